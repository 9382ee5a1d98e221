/- Lemmas. -/
import Derived.Test.YtdijgcnlbfgkdaaGreatDoorUP17
set_option maxHeartbeats 64000000
set_option maxRecDepth 1000000
set_option linter.all false
namespace Go.Proofs.YtdijgcnlbfgkdaaGreatDoor
open Go.RowKit Go.Proofs.Tryz
attribute [local go_sem] ar4
def Cy.iK (c:UInt8) (most:Int) (l:Cy.L):Int:=(Cy.nM c most l).getD (-1)
def Cy.alv {c d:UInt8} {m n:Int} {e:Nat} {r:Cy.L} (h:Num.dM r=(n,e)):Cy.iK c m (d :: r)=if d=c/\e=0/\0<=n/\n<m then n else -1:=by
 unfold Cy.iK
 show(if d=c/\(Num.dM r).2=0/\0<=(Num.dM r).1/\(Num.dM r).1<m then some (Num.dM r).1 else none).getD (-1)=_
 rw[h];by_cases hc:d=c/\e=0/\0<=n/\n<m
 ·rw[aeu hc,aeu hc];rfl
 rw[aer hc,aer hc];rfl
def KZ (z:ByteArray) (c:UInt8) (most:Int) (w:World) (hs:z.size<=1073741824):
  Calls prog 62 #[.string z,.int .u8 c.toNat,.int .i64 most] w (fun e w'=>e=.returned (.int .i64 (Cy.iK c most z.data.toList))/\Below w.heap.size w w'):=by
 obtain⟨R,hR⟩:=aj (Cy.iK c most z.data.toList);rw[hR];by_cases h0:z.size=0
 ·have hx:R= -1:=by
   rw[<-hR,show z.data.toList=[] from aeI (by rw[<-aof];exact h0)];rfl
  have hi:((z.size:Nat):Int)<1:=by omega
  have t1:decide ((z.size:Int)<1)=true:=aei hi;clear h0 hR;go_enter func62,ntmps62;go_wp2;go_ret;exact⟨by rw[hx];rfl,aoa _ _⟩
 obtain⟨y,hy⟩:=aj (z.extract 1 z.size);have hpos:0<z.size:=by omega
 obtain⟨l,hl⟩:=aj z.data.toList
 have hyl:y.data.toList=l.drop 1:=by
  rw[<-hy,<-hl,ByteArray.data_extract,Array.toList_extract,aqA,aeG (by simp)]
 cases l with
 |nil=>exact absurd (by rw[aof,hl];rfl) h0
 |cons d r=>
  have hd:z[0]'hpos=d:=by
   have:=ar8 z 0 hpos;rw[hl]at this
   simpa using this.symm
  obtain⟨n,en,hne⟩: ∃n en,Num.dM r=(n,en):=⟨_,_,rfl⟩;rw[hl,Cy.alv hne]at hR;have hys:y.size<=1073741824:=by rw[<-hy];simp;omega
  have hpi:=aaF y w hys;rw[hyl,show(d :: r).drop 1=r from rfl,hne]at hpi
  have rP:=ah hpi;have HU:=ah o9;obtain⟨b1,hb1⟩:=aj (((z[0]'hpos).toNat:Int) !=(c.toNat:Int));obtain⟨b2,hb2⟩:=aj ((en:Int) !=0)
  have hx:R=if b1=false/\b2=false/\0<=n/\n<most then n else -1:=by
   have e1:(d=c)↔b1=false:=by
    rw[<-hb1,hd,afV];exact⟨fun h=>by rw[h],fun h=>afC.1 (by omega)⟩
   have e2:(en=0)↔b2=false:=by
    rw[<-hb2,afV];omega
   rw[<-hR];simp only[e1,e2]
  have HX:=ah hx;have hi: ¬((z.size:Nat):Int)<1:=by omega
  have t1:decide ((z.size:Int)<1)=false:=dF hi;have hp1:(1:Int)<=z.size:=by omega
  have hp0:(0:Int)<z.size:=by omega
  clear hR hl hyl hne hys hpi hd hx h0;by_cases q1:n<0
  all_goals by_cases q2:n<most
  all_goals
   cases b1
   all_goals
    cases b2
    all_goals
     go_enter func62,ntmps62;go_wp2_with fail;refine mq8 rP fun w1 hb=>?_;have HB:=ah hb;clear hb;go_wp2;go_ret;exact⟨by rw[HX.out];first|(rw[aeu ⟨by trivial,by trivial,by omega,by omega⟩];rfl)|(rw[aer (fun⟨h1,h2,h3,h4⟩=>by first|exact absurd h1 (by decide)|exact absurd h2 (by decide)|omega)];rfl),HB.out⟩
def Ids (w:World) (sz:Nat) (A:Option Addr) (l:List Int):Prop:= ∀i x,l[i]?=some x-> ∃b o,A=some ⟨b,o,none⟩/\b<w.heap.size/\w.cell? ⟨b,o+i*sz,none⟩=some (.int .i64 x)
def Ids.below {w w':World} {sz:Nat} {A:Option Addr} {l:List Int} (h:Ids w sz A l) (hb:Below w.heap.size w w'):Ids w' sz A l:=fun i x hx=>by
 obtain⟨b,o,e,hlt,hc⟩:=h i x hx;exact⟨b,o,e,afn hlt hb.size,(hb.cell (by exact hlt)).trans hc⟩
def ac3 (An Ar:Option Addr) (m cn k cr:Nat) (l:List Int) (n:Int) (w:World) (h:Ids w 3 An l) (hl:l.length=m) (hm:m<=16777216):
  Calls prog 63 #[.agg #[.slice An m cn,.slice Ar k cr],.int .i64 n] w (fun e w'=>e=.returned (.bool (decide (n∈l)))/\Below w.heap.size w w'):=by
 obtain⟨R,hR⟩:=aj (decide (n∈l));rw[hR];obtain⟨b,hb⟩:=aj w.heap.size;obtain⟨W1,hW1⟩:=aj (w.alloc (.cells #[.slice An m cn,.slice Ar k cr] 26));have hb1:Below w.heap.size w W1:=hW1▸(aoa _ w).alloc (aej _) _;have hk1:ak W1 b 26 #[.slice An m cn,.slice Ar k cr]:=by rw[<-hW1,<-hb];exact ak.new _ _ _
 have a0:W1.cell? ⟨b,0,none⟩=some (.slice An m cn):=hk1.cell 0;refine gq7 (h.below hb1) hb1 hb hW1 hR hl rG fun HI HB1 kN HW1 HR HL HU=>?_;clear hW1 hb1 hk1 h hb hR hl;go_enter func63,ntmps63
 go_upto_region 1 with fail
 rw[HW1.out,kN.out];clear HW1;go_wp2_with fail
 go_loopg [5] m (fun g x5 wr=> ∃k:Nat,x5=.int .i64 k/\k+g=m/\wr=W1/\ ∀j x,j<k->l[j]?=some x->x≠n)
 case atStart=>exact⟨0,rfl,by omega,rfl,fun j x h=>by omega⟩
 obtain⟨k,rfl,hk,rfl,hz⟩:=hrel;have HZ:=ah hz;clear hz;cases gk with
 |zero=>
  have hx:R=false:=by
   rw[<-HR.out,anW];intro hm;obtain⟨j,hj,he⟩:=ao0.1 hm;exact HZ.out j _ (by have:=HL.out;omega) (aen hj) he
  have HX:=ah hx;have fQ: ¬(k:Int)<m:=by omega
  have t1:decide ((k:Int)<m)=false:=dF fQ;clear hk hx;go_wp2;go_ret;exact⟨by rw[HX.out];rfl,kN.out▸HB1.out⟩
 |succ g=>
  have hkn:k<m:=by omega
  have dW:(k:Int)<m:=by omega
  obtain⟨x,hx⟩: ∃x,l[k]?=some x:=⟨_,aen (by rw[HL.out];exact hkn)⟩
  obtain⟨bb,o,rfl,hlt,hc⟩:=HI.out k x hx;have tk:((k:Int)).toNat=k:=by omega
  have hk0:(0:Int)<=k:=by omega
  have tw:IntKind.i64.wrap ((k:Int)+1)=(k:Int)+1:=by unfold IntKind.wrap;simp[IntKind.signed,IntKind.bits];omega
  have HK:=ah hk;have wX:=ah hx;clear hkn hx hk hlt;by_cases hxn:x=n
  ·have t2:(x == n)=true:=by rw[afc];exact hxn
   have hr:R=true:=by rw[<-HR.out,aqr,<-hxn];exact aew wX.out
   have HX:=ah hr;clear hxn hr;go_wp2;go_ret;exact⟨by rw[HX.out];rfl,kN.out▸HB1.out⟩
  have t2:(x == n)=false:=by rw[aek];exact hxn
  have YI:=ah hxn;clear hxn;go_wp2
  go_roundg g
  case measure=>omega
  case rel=>exact⟨k+1,int_eq (by omega),by have:=HK.out;omega,rfl,fun j y hj hy=>by
   rcases aoD.1 hj with h|h
   ·exact HZ.out j y h hy
   rw[h,wX.out]at hy
   exact aeM hy▸YI.out⟩
structure La (w:World) (An:Option Addr) (nn:Nat) (Ar:Option Addr) (rn:Nat) (g:Gr.G):Prop where
 n:Ids w 3 An (g.nodes.map Gr.N.id)
 r:Ids w 5 Ar (g.ay.map Gr.R.id)
 nl:g.nodes.length=nn/\nn<=16777216
 rl:g.ay.length=rn/\rn<=16777216
def La.below {w w':World} {An Ar:Option Addr} {nn rn:Nat} {g:Gr.G} (h:La w An nn Ar rn g) (hb:Below w.heap.size w w'):La w' An nn Ar rn g:=⟨h.n.below hb,h.r.below hb,h.nl,h.rl⟩
def Cy.alx {g:Gr.G} {z:Cy.L}:(Cy.endP g z).2=if Cy.iK 110 1024 z<0 then 61 else if Cy.iK 110 1024 z∈g.nodes.map Gr.N.id then 0 else 65:=by
 unfold Cy.endP Cy.iK;cases h:Cy.nM 110 1024 z with
 |none=>rfl
 |some n=>
  have:=(Cy.KN h).1
  show(if n∈g.nodes.map Gr.N.id then(n,0) else(0,65):Int×Nat).2=if n<0 then 61 else if n∈g.nodes.map Gr.N.id then 0 else 65
  rw[aer (show¬n<0 by omega)]
  by_cases hm:n∈g.nodes.map Gr.N.id
  ·rw[aeu hm,aeu hm]
  rw[aer hm,aer hm]
def ac4 (An Ar:Option Addr) (nn cn rn cr:Nat) (g:Gr.G) (z:ByteArray) (w:World) (h:La w An nn Ar rn g) (hs:z.size<=1073741824):
  Calls prog 66 #[.agg #[.slice An nn cn,.slice Ar rn cr],.string z] w (fun e w'=>e=.returned (.int .i64 ((Cy.endP g z.data.toList).2:Nat))/\Below w.heap.size w w'):=by
 obtain⟨R,hR⟩:=aj ((Cy.endP g z.data.toList).2);rw[hR];rw[Cy.alx]at hR;obtain⟨b,hb⟩:=aj w.heap.size;obtain⟨W1,hW1⟩:=aj (w.alloc (.cells #[.slice An nn cn,.slice Ar rn cr] 26));have hb1:Below w.heap.size w W1:=hW1▸(aoa _ w).alloc (aej _) _;have hk1:ak W1 b 26 #[.slice An nn cn,.slice Ar rn cr]:=by rw[<-hW1,<-hb];exact ak.new _ _ _
 obtain⟨n,hn⟩:=aj (Cy.iK 110 1024 z.data.toList);have hid:=KZ z 110 1024 W1 hs;rw[hn]at hid hR;refine gq7 hid (h.below hb1) hk1 hb1 hb hW1 hR fun HI HG HK HB1 kN HW1 HR=>?_;clear hW1 hb1 hk1 h hb hR hid hn;go_enter func66,ntmps66
 go_upto_region 1 with fail
 rw[HW1.out,kN.out];clear HW1;go_wp2_with fail;refine mq8 HI fun w2 b2=>?_;have HB2:=ah (HB1.trans (b2.mono HB1.size));by_cases hneg:n<0
 ·have hx:R=61:=by rw[<-HR.out,aeu hneg]
  subst hx;go_wp2;go_ret;exact⟨rfl,HB2.out⟩
 obtain⟨a0,a1⟩:=cells2 (HK.below b2 HK.lt);have HM:=ah (ac3 An Ar nn cn rn cr (g.nodes.map Gr.N.id) n w2 (HG.n.below b2) (by rw[aeP];exact HG.nl.1) HG.nl.2)
 clear b2;go_wp2_with fail;refine mq8 HM fun w3 b3=>?_;have HB3:=ah (HB2.trans (b3.mono HB2.size));have hx:R=if n∈g.nodes.map Gr.N.id then 0 else 65:=by rw[<-HR.out,aer (show¬n<0 by omega)]
 obtain⟨t,ht⟩:=aj (decide (n∈g.nodes.map Gr.N.id));rw[ht]
 have hx:R=if t=true then 0 else 65:=by
  rw[hx];by_cases hm:n∈g.nodes.map Gr.N.id
  ·rw[aeu hm,<-ht,aeu (aei hm)]
  rw[aer hm,<-ht,aer (by simp[hm])]
 subst hx;clear b3 ht a0 a1;cases t
 all_goals
  go_wp2;go_ret;exact⟨rfl,HB3.out⟩
def aly (x:Nat) (w:World) (e:Ending) (w':World):Prop:=e=.returned (.int .i64 (x:Nat))/\Below w.heap.size w w'
end Go.Proofs.YtdijgcnlbfgkdaaGreatDoor
namespace Go.Proofs.YtdijgcnlbfgkdaaGreatDoor
open Go.RowKit Go.Proofs.Tryz
def letters:List UInt8:=[97,98,99,100,101,102,103,104,105,106,107,108,109,110,111,112,113,114,115,116,117,118,119,120,121,122,65,66,67,68,69,70,71,72,73,74,75,76,77,78,79,80,81,82,83,84,85,86,87,88,89,90,95,48,49,50,51,52,53,54,55,56,57]
def yw (c:UInt8):Nat:=letters.findIdx (· == c)
def ac5 (n:Nat):Bool:=decide (yw (UInt8.ofNat n)<=63) &&(decide (yw (UInt8.ofNat n)=63) == !Lex.dh (UInt8.ofNat n)) &&(decide (52<yw (UInt8.ofNat n)) ==(!Lex.dh (UInt8.ofNat n) || Num.aJ (UInt8.ofNat n)))
def alz:(List.range 256).all ac5=true:=by kernel_rfl
def IY (c:UInt8):yw c<=63/\(yw c=63↔Lex.dh c=false)/\(52<yw c↔Lex.dh c=false\/Num.aJ c=true):=by
 have h:=ahx.1 alz c.toNat (aou.2 c.toNat_lt);unfold ac5 at h;rw[aoU]at h;simp only[afx,aeU,afc]at h;obtain⟨⟨h1,h2⟩,h3⟩:=h;refine⟨h1, ?_, ?_⟩
 ·exact⟨fun e=>by rw[aei e]at h2;simpa using h2.symm,fun e=>by rw[e]at h2;simpa using h2⟩
 exact⟨fun e=>by rw[aei e]at h3;simpa using h3.symm,fun e=>by
  have h4:(!Lex.dh c || Num.aJ c)=true:=by rcases e with e|e<;>simp[e]
  rw[h4]at h3;simpa using h3⟩
def pos_at {c:UInt8} (h:yw c<63):letters[yw c]?=some c:=by
 have hl:yw c<letters.length:=h;rw[aen hl];have:=List.findIdx_getElem (w:=hl);exact afL some (afc.1 this)
def alA {c:UInt8} {j:Nat} (h:j<yw c): ∃d,letters[j]?=some d/\d≠c:=by
 have hl:j<letters.length:=afn h (IY c).1;refine⟨_,aen hl, ?_⟩;have:=List.not_of_lt_findIdx h
 simpa using this
def ac6 {j:Nat} {d:UInt8} (hj:j<63) (h:letters[j]?=some d):(⟨#[97,98,99,100,101,102,103,104,105,106,107,108,109,110,111,112,113,114,115,116,117,118,119,120,121,122,65,66,67,68,69,70,71,72,73,74,75,76,77,78,79,80,81,82,83,84,85,86,87,88,89,90,95,48,49,50,51,52,53,54,55,56,57]⟩:ByteArray)[j]'hj=d:=
 aeM ((Dz (⟨#[97,98,99,100,101,102,103,104,105,106,107,108,109,110,111,112,113,114,115,116,117,118,119,120,121,122,65,66,67,68,69,70,71,72,73,74,75,76,77,78,79,80,81,82,83,84,85,86,87,88,89,90,95,48,49,50,51,52,53,54,55,56,57]⟩:ByteArray) j hj).symm.trans h)
def IZ (s:ByteArray) (w:World) (hs:s.size<=1073741824):
  Calls prog 64 #[.string s] w fun e w'=>e=.returned (.bool (Gr.fD s.data.toList))/\Below w.heap.size w w':=by
 obtain⟨R,hR⟩:=aj (Gr.fD s.data.toList);rw[hR];have HR:=ah hR;clear hR;have hl:=aof s;have hg:=fun(k:Nat) (h:k<s.size)=>Dz s k h
 obtain⟨n,hn⟩:=aj s.size;rw[hn]at hl hs;have hu:=rG;by_cases h0:n=0
 ·subst h0
  have hr:R=false:=by rw[<-HR.out,aeI hl.symm];exact ab1
  have HRR:=ah hr;clear hr hl hg hs;go_enter func64,ntmps64;go_wp2;go_ret;exact⟨by rw[HRR.out];rfl,aoa _ _⟩
 have h0i:(1:Int)<=n:=by omega
 have t1:decide ((n:Int)<1)=false:=dF (by omega)
 by_cases lC:40<n
 ·have MF:(40:Int)<n:=by omega
  have t40:decide ((40:Int)<n)=true:=aei MF;have hr:R=false:=by rw[<-HR.out];exact ab2 (by omega)
  have HRR:=ah hr;clear hr hl hg h0 lC hs;go_enter func64,ntmps64;go_wp2;go_ret;exact⟨by rw[HRR.out];rfl,aoa _ _⟩
 have MF:(n:Int)<=40:=by omega
 have t40:decide ((40:Int)<n)=false:=dF (by omega)
 refine gq4 hg hn hl hu fun HG HN bY HU=>?_;clear hg hl;go_enter func64,ntmps64;go_wp2_with fail
 go_loopg [3] n (fun kx x wr=> ∃k:Nat,x=.int .i64 k/\k+kx=n/\Below w.heap.size w wr/\Hid (∀(j:Nat) d,j<k->s.data.toList[j]?=some d->Lex.dh d=true/\(j=0->Num.aJ d=false)))
 case atStart=>exact⟨0,rfl,by omega,by first|exact aoa _ _|exact(aoa _ _).drew,fun j d h=>absurd h (Nat.not_lt_zero _)⟩
 obtain⟨k,rfl,hk,hb,hI⟩:=hrel;have HB:=ah hb;clear hb;cases gk with
 |zero=>
  obtain rfl:k=n:=by omega
  have hr:R=true:=by
   rw[<-HR.out];have hlt:0<s.size:=by rw[HN.out];omega
   have h0:=HG.out 0 hlt;exact ab5 h0 ((hI.out 0 _ (by omega) h0).2 rfl) (by rw[<-bY.out];omega) (fun j d hj=>(hI.out j d (by have:=(aeK.1 hj).1;rw[<-bY.out]at this;exact this) hj).1)
  have HRR:=ah hr;clear hr;go_wp2;go_ret;exact⟨by rw[HRR.out];rfl,HB.out⟩
 |succ kq=>
  have hkn:k<s.size:=by rw[HN.out];omega
  have dW:(k:Int)<n:=by omega
  have pk:(0:Int)<=(k:Int):=by omega
  have tk:((k:Int)).toNat=k:=by omega
  obtain⟨c,hc⟩:=aj (s[k]'hkn);have HC:=ah (show s.data.toList[k]?=some c by rw[<-hc];exact HG.out k hkn)
  obtain⟨q,hq⟩:=aj (yw c);have HQ:=ah hq;have arx:q<=63:=hq▸(IY c).1;clear hq;go_wp2_with fail
  go_loopg [4] q (fun jx x wr=> ∃j:Nat,x=.int .i64 j/\j+jx=q/\Below w.heap.size w wr)
  case atStart=>exact⟨0,rfl,by omega,HB.out⟩
  obtain⟨j,rfl,hj,hb⟩:=hrel;have HB2:=ah hb;clear hb;cases gk with
  |zero=>
   obtain rfl:j=q:=by omega
   have pj:(0:Int)<=(j:Int):=by omega
   have ttj:((j:Int)).toNat=j:=by omega
   by_cases h63:j=63
   ·subst h63
    have hr:R=false:=by rw[<-HR.out];exact ab4 HC.out ((IY c).2.1.1 HQ.out)
    have HRR:=ah hr;clear hr hj pj ttj hk
    go_upto_region 7 with fail
    go_quiet (fail)
    go_wp2_with fail;go_ret;exact⟨by rw[HRR.out];rfl,by first|exact HB2.out|exact below_drewN HB2.out _⟩
   have hjn:j<63:=by omega
   have oH:(j:Int)<63:=by omega
   have tj:decide ((j:Int)<63)=true:=aei oH;have t63:((j:Int) == 63)=false:=aek.2 (by omega)
   have hd:=ac6 hjn (show letters[j]?=some c by rw[<-HQ.out];exact pos_at (by rw[HQ.out];exact hjn))
   have tn:((c.toNat:Int) !=c.toNat)=false:=by simp
   have hw:Lex.dh c=true:=by
    cases h:Lex.dh c with
    |true=>rfl
    |false=>exact absurd (HQ.symm.trans ((IY c).2.1.2 h)) h63
   by_cases hdig:k=0/\52<j
   ·obtain⟨rfl,h52⟩:=hdig
    have t52:decide ((52:Int)<j)=true:=aei (by omega)
    have arz:(52:Int)<j:=by omega
    have hr:R=false:=by
     rw[<-HR.out];refine ab3 HC.out ?_
     rcases(IY c).2.2.1 (by rw[HQ.out];exact h52) with h|h
     ·rw[h]at hw;cases hw
     exact h
    have HRR:=ah hr;clear hr hj hk hw h63 h52
    go_upto_region 7 with fail
    go_quiet (fail)
    go_wp2_with fail;go_ret;exact⟨by rw[HRR.out];rfl,by first|exact HB2.out|exact below_drewN HB2.out _⟩
   have HI2:=ah (show∀(i:Nat) d,i<k+1->s.data.toList[i]?=some d->Lex.dh d=true/\(i=0->Num.aJ d=false) from fun i d hi he=>by
    by_cases e:i=k
    ·subst e
     rw[HC.out]at he;cases he;refine⟨hw,fun e0=> ?_⟩
     cases h:Num.aJ c with
     |false=>rfl
     |true=>exact absurd ⟨e0,by have:=(IY c).2.2.2 (.inr h);rw[HQ.out]at this;exact this⟩ hdig
    exact hI.out i d (by omega) he)
   have HK:=ah hk
   have hor:k≠0\/(k=0/\ ¬52<j):=by
    by_cases e:k=0
    ·exact .inr ⟨e,fun h=>hdig ⟨e,h⟩⟩
    exact .inl e
   clear hj hk hw h63 hdig
   rcases hor with e|⟨rfl,e⟩
   ·have tk0:((k:Int) == 0)=false:=aek.2 (by omega)
    have tk1:(k:Int)≠0:=by omega
    clear e
    go_upto_region 7 with fail
    go_quiet (fail)
    go_wp2_with fail
    go_roundg kq
    case measure=>omega
    exact⟨k+1,by simp,by have:=HK.out;omega,by first|exact HB2.out|exact below_drewN HB2.out _,HI2.out⟩
   have t52:decide ((52:Int)<j)=false:=dF (by omega)
   have arB:(j:Int)<=52:=by omega
   clear e
   go_upto_region 7 with fail
   go_quiet (fail)
   go_wp2_with fail
   go_roundg kq
   case measure=>omega
   exact⟨1,by simp,by have:=HK.out;omega,by first|exact HB2.out|exact below_drewN HB2.out _,HI2.out⟩
  |succ jq=>
   have hjn:j<63:=by omega
   have oH:(j:Int)<63:=by omega
   have tj:decide ((j:Int)<63)=true:=aei oH;have pj:(0:Int)<=(j:Int):=by omega
   have ttj:((j:Int)).toNat=j:=by omega
   obtain⟨d,hd,hne⟩:=alA (c:=c) (j:=j) (by rw[HQ.out];omega)
   have hd:=ac6 hjn hd
   have tn:((d.toNat:Int) !=c.toNat)=true:=by
    rw[afd];intro e;exact hne (afC.1 (Int.ofNat.inj e))
   have HJ:=ah hj;clear hj hne hk
   go_upto_region 7 with fail
   go_quiet (fail)
   go_wp2_with fail
   go_roundg jq
   case measure=>omega
   exact⟨j+1,by simp,by have:=HJ.out;omega,by first|exact HB2.out|exact below_drewN HB2.out _⟩
def ac7 (B:Nat) (A:Option Addr) (c:Nat) (ps:List Gr.P) (w:World) (h:dD w B 6 (bg w B) A ps) (hB:B<=w.heap.size) (hl:ps.length<=1073741824) (hs: ∀p∈ps,vT p):
  Calls prog 70 #[.slice A ps.length c] w fun e w'=>e=.returned (.int .i64 (Gr.dJ ps:Nat))/\Below w.heap.size w w':=by
 obtain⟨R,hR⟩:=aj (Gr.dJ ps);rw[hR];unfold Gr.dJ at hR;obtain⟨n,hn⟩:=aj ps.length;rw[hn]at hl hR⊢;refine gq4 h hs hn rG fun HH HS HN HU=>?_;by_cases h8:16<n
 ·rw[aeu h8]at hR
  subst hR;have yP:(16:Int)<n:=by omega
  have t8:decide ((16:Int)<n)=true:=aei yP;clear h h8 hs hl;go_enter func70,ntmps70;go_wp2;go_ret;exact⟨rfl,aoa _ _⟩
 rw[aer h8]at hR;have HR:=ah hR;have yP:(n:Int)<=16:=by omega
 have t8:decide ((16:Int)<n)=false:=dF (by omega)
 clear h h8 hs hl hR;go_enter func70,ntmps70;go_wp2_with fail
 go_loopg [3] n (fun g x wr=> ∃k:Nat,x=.int .i64 k/\k+g=n/\Below w.heap.size w wr/\ ∀j a,j<k->ps[j]?=some a->Gr.lQ (Gr.aQ Gr.P.key ps j) a=0)
 case atStart=>exact⟨0,rfl,by omega,aoa _ _,fun j a h=>by omega⟩
 obtain⟨k,rfl,hk,hb,hz⟩:=hrel;refine gq3 hk hz hb fun HK HZ HB=>?_;clear hz hb;cases gk with
 |zero=>
  obtain rfl:k=n:=by omega
  have hr:=Qk HN.out HR.out HZ.out;have HRR:=ah hr;clear hk hr;go_wp2;go_ret;exact⟨by rw[HRR.out];rfl,HB.out⟩
 |succ g=>
  have hkn:k<n:=by omega
  have dW:(k:Int)<n:=by omega
  obtain⟨p,hp⟩: ∃p,ps[k]?=some p:=⟨_,aen (by rw[HN.out];exact hkn)⟩
  have HP:=ah hp;have Ai:=HH.below (HB.mono hB) (bg.below (HB.mono hB));obtain⟨b,o,An,cn,At,ct,rfl,hbB,⟨c0,c1,c2,c3,c4,c5⟩,r1,r2⟩:=Ai.prop hp;obtain⟨z,hz⟩:=aj (⟨p.key.toArray⟩:ByteArray);obtain⟨zt,aK⟩:=aj (⟨p.val.text.toArray⟩:ByteArray);unfold ST at c0 c3;rw[hz]at c0;rw[aK]at c3;clear hp hk hkn;have vV:=HS.out p (aew HP.out);have hBr:B<=wr.heap.size:=aep hB HB.size;have hzd:z.data.toList=p.key:=by rw[<-hz]
  obtain⟨Nm,Gt⟩:=aj (Gr.fD p.key);obtain⟨CV,Js⟩:=aj (au.check p.val);have HC:=ah (IZ z wr (by rw[aof,hzd];exact vV.key))
  rw[hzd,Gt]at HC
  have HBC:=ah (fun(X:World) (hb:Below wr.heap.size wr X)=>show X.cell? ⟨b,o+k*6,none⟩=some (.string z)/\X.cell? ⟨b,o+k*6+1,none⟩=some (.int .i64 p.val.kind)/\X.cell? ⟨b,o+k*6+2,none⟩=some (.int .i64 p.val.num)/\X.cell? ⟨b,o+k*6+3,none⟩=some (.string zt)/\X.cell? ⟨b,o+k*6+4,none⟩=some (.slice An p.val.nums.length cn)/\X.cell? ⟨b,o+k*6+5,none⟩=some (.slice At p.val.texts.length ct) from
   have hl:=afn hbB hBr
   ⟨(hb.cell (p:=⟨b,o+k*6,none⟩) hl).trans c0,(hb.cell (p:=⟨b,o+k*6+1,none⟩) hl).trans c1,(hb.cell (p:=⟨b,o+k*6+2,none⟩) hl).trans c2,(hb.cell (p:=⟨b,o+k*6+3,none⟩) hl).trans c3,(hb.cell (p:=⟨b,o+k*6+4,none⟩) hl).trans c4,(hb.cell (p:=⟨b,o+k*6+5,none⟩) hl).trans c5⟩)
  have ao1:=ah (fun(X:World) (hb:Below wr.heap.size wr X) (m:Nat)=>(show qM (X.drewN m) B (.agg #[.int .i64 p.val.kind,.int .i64 p.val.num,.string zt,.slice An p.val.nums.length cn,.slice At p.val.texts.length ct]) p.val by
   have:=((zX (cn:=cn) (ct:=ct) vV.val r1 r2).below (hb.mono hBr)).below (below_drewN (aoa B X) m);unfold ST at this
   rwa [aK]at this))
  have Sm:Hid (∀(X:World) (q:Gr.P) (m:Nat),Below wr.heap.size wr X->m<n->ps[m]?=some q->X.cell? ⟨b,o+m*6,none⟩=some (ST q.key)):=fun X q m hb hm hq=>by
   obtain⟨b',o',_,_,_,_,he,hlt,⟨e0,-⟩,-⟩:=Ai.prop hq
   injection he with he
   injection he with he1 he2
   subst he1;subst he2;exact((hb.mono hBr).cell (by exact hlt)).trans e0
  refine gq4 Gt hzd Js hBr fun qU HZD Jt G8=>?_;have arC:(0:Int)<=(k:Int):=by omega
  have htk:((k:Int)).toNat=k:=by omega
  clear Gt Js hz aK hzd Ai r1 r2 hBr vV hbB;go_wp2_with fail;refine mq8 HC fun w1 hb1=>?_;clear c0 c1 c2 c3 c4 c5;obtain⟨d0,d1,d2,d3,d4,d5⟩:=HBC.out w1 hb1;have dG:=ah (HB.trans (hb1.mono HB.size));have bH:=ah (fun(m:Nat)=>Uu B _ p.val (w1.drewN m) (ao1.out w1 hb1 m) (aep G8.out hb1.size))
  rw[Jt.out]at bH;have yG:Hid (∀q:Gr.P,∀m:Nat,m<n->ps[m]?=some q->w1.cell? ⟨b,o+m*6,none⟩=some (ST q.key)):=fun q m hm hq=>Sm.out w1 q m hb1 hm hq
  clear hb1;cases Nm with
  |false=>
   have hr:=DU HR.out HP.out HZ.out (e:=60) (by unfold Gr.lQ;rw[qU.out,aeu rfl]) (by decide)
   have HRR:=ah hr;clear hr;go_wp2;go_ret;exact⟨by rw[HRR.out];rfl,dG.out⟩
  |true=>
   have MJ:=ah (fun(h:Gr.lQ (Gr.aQ Gr.P.key ps k) p=0)=>zW HP.out HZ.out h)
   have qR:=ah (fun(e:Nat) (h:Gr.lQ (Gr.aQ Gr.P.key ps k) p=e) (hne:e≠0)=>DU HR.out HP.out HZ.out h hne)
   by_cases h0:k=0
   ·have hk0:(k:Int)<=0:=by omega
    have tk:decide (0<k)=false:=dF (by omega)
    have hpw:Gr.lQ (Gr.aQ Gr.P.key ps k) p=CV:=by
     subst h0;unfold Gr.lQ;rw[qU.out,aer (by decide),aer (by simp[Gr.aQ]),Jt.out]
    have iT:=ah hpw;clear h0 hpw
    go_upto_region 8 with fail
    go_quiet (fail)
    go_wp2_with fail;refine mq7 (bH.out _) fun w4 hb4=>?_;have HB4:=ah (rJ (below_drewN dG.out nq) hb4);clear hb4;cases CV with
    |zero=>
     have HM:=ah (MJ.out iT.out);go_wp2
     go_roundg g
     case measure=>omega
     exact⟨k+1,int_eq (by omega),by have:=HK.out;omega,HB4.out,HM.out⟩
    |succ e=>
     have hr:=qR.out (e+1) iT.out (by omega)
     have HRR:=ah hr;have hne:(((e+1:Nat):Int) !=0)=true:=by rw[afd];omega
     clear hr;go_wp2;go_ret;exact⟨by rw[HRR.out];rfl,HB4.out⟩
   obtain⟨m,hm⟩: ∃m,k=m+1:=⟨k - 1,by omega⟩
   have tk:decide (0<k)=true:=aei (by omega)
   have hkp:(0:Int)<k:=by omega
   have hsub:(k:Int) - 1=(m:Int):=by omega
   have hmn:(m:Int)<n:=by omega
   have MK:m<n:=by omega
   obtain⟨q,hq⟩: ∃q,ps[m]?=some q:=⟨_,aen (by omega)⟩
   have e0:=yG.out q m MK hq;unfold ST at e0;obtain⟨zq,nO⟩:=aj (⟨q.key.toArray⟩:ByteArray);have yQ:zq.toList=q.key:=by rw[<-nO,zV]
   rw[nO]at e0;obtain⟨b1,hb1⟩:=aj (Op.bytesLess z.toList zq.toList);obtain⟨b2,hb2⟩:=aj (z.toList == zq.toList);have hb:decide (p.key<=q.key)=(b1 || b2):=by rw[<-hb1,<-hb2,IQ,yQ,aod,HZD.out]
   have hpw:Gr.lQ (Gr.aQ Gr.P.key ps k) p=if(b1 || b2)=true then 6 else CV:=by
    have hpv:Gr.aQ Gr.P.key ps k=some q.key:=by rw[hm];show ps[m]?.map Gr.P.key=_;rw[hq];rfl
    unfold Gr.lQ;rw[qU.out,hpv,aer (by decide),<-hb,Jt.out]
    rfl
   have iT:=ah hpw;clear h0 hpw hq nO yQ hb hm MK;have kJ:=ah (show(b1 || b2)=true->R=6 from fun h=>qR.out 6 (by rw[iT.out,h];rfl) (by decide))
   cases b1 with
   |true=>
    have hr:=kJ.out rfl;have HRR:=ah hr;clear hr
    go_upto_region 8 with fail
    go_quiet (fail)
    go_wp2;go_ret;exact⟨by rw[HRR.out];rfl,below_drewN dG.out _⟩
   |false=>
    cases b2 with
    |true=>
     have hr:=kJ.out rfl;have HRR:=ah hr;clear hr
     go_upto_region 8 with fail
     go_quiet (fail)
     go_wp2;go_ret;exact⟨by rw[HRR.out];rfl,below_drewN dG.out _⟩
    |false=>
     go_upto_region 8 with fail
     go_quiet (fail)
     go_wp2_with fail;refine mq7 (bH.out _) fun w4 hb4=>?_;have HB4:=ah (rJ (below_drewN dG.out nq) hb4);clear hb4;cases CV with
     |zero=>
      have HM:=ah (MJ.out iT.out);go_wp2
      go_roundg g
      case measure=>omega
      exact⟨k+1,int_eq (by omega),by have:=HK.out;omega,HB4.out,HM.out⟩
     |succ e=>
      have hr:=qR.out (e+1) iT.out (by omega)
      have HRR:=ah hr;have hne:(((e+1:Nat):Int) !=0)=true:=by rw[afd];omega
      clear hr;go_wp2;go_ret;exact⟨by rw[HRR.out];rfl,HB4.out⟩
attribute [local go_sem] ar4
def PwC (w V:World) (A:Option Addr) (k:Nat) (p:Gr.P):Prop:=
 ∃g off zk zt An cn At ct,A=some ⟨g,off,none⟩/\zk.data.toList=p.key/\
  V.cell? ⟨g,off+k*6,none⟩=some (.string zk)/\V.cell? ⟨g,off+k*6+1,none⟩=some (.int .i64 p.val.kind)/\V.cell? ⟨g,off+k*6+2,none⟩=some (.int .i64 p.val.num)/\V.cell? ⟨g,off+k*6+3,none⟩=some (.string zt)/\
  V.cell? ⟨g,off+k*6+4,none⟩=some (.slice An p.val.nums.length cn)/\V.cell? ⟨g,off+k*6+5,none⟩=some (.slice At p.val.texts.length ct)/\
  ∀U,Below w.heap.size w U->qM U U.heap.size (.agg #[.int .i64 p.val.kind,.int .i64 p.val.num,.string zt,.slice An p.val.nums.length cn,.slice At p.val.texts.length ct]) p.val
def alB {B:Nat} {A:Option Addr} {n c:Nat} {ps:List Gr.P} {w V:World} (h:aT 143 w B (.slice A n c) ps) (hn:ps.length=n) (hs: ∀p∈ps,Cy.rV p) (hb:Below w.heap.size w V) {k:Nat} {p:Gr.P} (hk:ps[k]?=some p):PwC w V A k p:=by
 obtain⟨l,hl,hx,ho⟩:=h;rw[hn]at ho;have hll:l.length=n:=by rw[<-hn,<-hl,aeP]
 rw[<-hl,aeY]at hk;obtain⟨⟨p',cs⟩,hxk,rfl⟩:=afr.1 hk;have hm:=aew hxk;obtain⟨g,off,rfl,hgl,hcl⟩:=pair_cells ho hll (fun x hm=>by obtain⟨s,t,e,-⟩:=hx x hm;rw[e];rfl) hxk
 obtain⟨An,cn,At,ct,rfl,hn1,ht1⟩:=(hx _ hm).form;have hps:=hs p' (by rw[<-hl];exact aoG (f:=Prod.fst) hm)
 have hcell:=fun(j:Nat) u (hu:([ST p'.key,.int .i64 p'.val.kind,.int .i64 p'.val.num,ST p'.val.text,.slice An p'.val.nums.length cn,.slice At p'.val.texts.length ct]:List Value)[j]?=some u)=>(hb.cell (p:=⟨g,off+k*6+j,none⟩) hgl).trans (hcl j u hu)
 exact⟨g,off,⟨p'.key.toArray⟩,⟨p'.val.text.toArray⟩,An,cn,At,ct,rfl,rfl,hcell 0 _ rfl,hcell 1 _ rfl,hcell 2 _ rfl,hcell 3 _ rfl,hcell 4 _ rfl,hcell 5 _ rfl,fun U hU=>
  zX (rV.vok hps) (Reads.dZ (eu hn1 (bV hU none) (fun g c t fz hr=>by cases hr))) (Reads.dZ (eu ht1 (bV hU none) (fun g c t fz hr=>by cases hr)))⟩
def ac8 (B:Nat) (A:Option Addr) (n c:Nat) (ps:List Gr.P) (w:World) (h:aT 143 w B (.slice A n c) ps) (hn:ps.length=n) (hn2:n<=16777216) (hs: ∀p∈ps,Cy.rV p):
  Calls prog 65 #[.slice A n c] w (aly (Cy.dJ [] ps) w):=by
 obtain⟨R,hR⟩:=aj (Cy.dJ [] ps);rw[hR];refine gq5 (fun(V:World) (hb:Below w.heap.size w V) (k:Nat) (p:Gr.P) (hk:ps[k]?=some p)=>alB h hn hs hb hk) hR hn (fun p hp=>(hs p hp).key) rG fun HC HR HN HS HU=>?_
 have Df:(n:Int)<=16777216:=by omega
 clear h hR hn hs hn2;go_enter func65,ntmps65;go_wp2_with fail
 go_loopg [3] n (fun q x wr=> ∃k:Nat,x=.int .i64 k/\k+q=n/\Hid (Below w.heap.size w wr)/\Hid (Cy.dJ ((ps.take k).map Gr.P.key) (ps.drop k)=R))
 case atStart=>exact⟨0,rfl,by omega,aoa _ _,HR.out⟩
 obtain⟨k,rfl,hk,hb,he⟩:=hrel;have HB:Hid (Below w.heap.size w wr):=hb;have HE:Hid (Cy.dJ ((ps.take k).map Gr.P.key) (ps.drop k)=R):=he;have HK:=ah hk;clear hb he HR;cases gk with
 |zero=>
  have hx:R=0:=by
   rw[<-HE.out,agS (by have:=HN.out;omega)];simp[Cy.dJ]
  subst hx;have fQ: ¬(k:Int)<n:=by omega
  have t1:decide ((k:Int)<n)=false:=dF fQ;clear hk;go_wp2;go_ret;exact⟨rfl,HB.out⟩
 |succ q=>
  have hkn:k<n:=by omega
  have dW:(k:Int)<n:=by omega
  obtain⟨p,hp⟩: ∃p,ps[k]?=some p:=⟨_,aen (by rw[HN.out];exact hkn)⟩
  have hdr:ps.drop k=p :: ps.drop (k+1):=by
   rw[afk (by rw[HN.out];exact hkn)]
   congr 1
   exact aeM ((aen _).symm.trans hp)
  have htk:(ps.take (k+1)).map Gr.P.key=(ps.take k).map Gr.P.key++[p.key]:=by rw[afS,hp];simp
  have he:=HE.out;rw[hdr,Cy.dJ,<-htk]at he;have hcc:=HC.out wr HB.out k p hp;have HC2:=ah (fun(V:World) (hb:Below w.heap.size w V)=>HC.out V hb k p hp)
  have hps:=HS.out p (aew hp);obtain⟨g,off,zk,zt,An,cn,At,ct,rfl,fJ,d0,d1,d2,d3,d4,d5,hv⟩:=hcc;have tk:((k:Int)).toNat=k:=by omega
  have hk0:(0:Int)<=k:=by omega
  have tw:IntKind.i64.wrap ((k:Int)+1)=(k:Int)+1:=by unfold IntKind.wrap;simp[IntKind.signed,IntKind.bits];omega
  obtain⟨GB,mJ⟩:=aj (Gr.fD p.key);rw[mJ]at he;have hgn:=IZ zk wr (by rw[aof,fJ];omega)
  rw[fJ,mJ]at hgn;refine gq6 hgn he hv fJ hp hkn fun gW HE2 HV Gw HP lK=>?_;clear hkn hp hdr htk he hps hv fJ hgn mJ hk HE HC2;go_wp2_with fail;refine mq8 gW fun w1 b1=>?_;have HB1:=ah (HB.trans (b1.mono HB.size));clear b1 d0 d1 d2 d3 d4 d5;cases GB with
  |false=>
   have hr:R=60:=by rw[<-HE2.out,aeu rfl]
   subst hr;go_wp2;go_ret;exact⟨rfl,HB1.out⟩
  |true=>
  have he:=HE2.out;rw[aer (by decide)]at he
  have dU:=ah he;clear he HE2 gW;go_wp2_with fail
  go_loopg [4] k (fun q x wr=> ∃j:Nat,x=.int .i64 j/\j+q=k/\Hid (Below w.heap.size w wr)/\ ∀i a,i<j->ps[i]?=some a->a.key≠p.key)
  case atStart=>exact⟨0,rfl,by omega,HB1.out,fun i a h=>by omega⟩
  obtain⟨j,rfl,hj,hb,hz⟩:=hrel;have HB1:Hid (Below w.heap.size w wr):=hb;clear hb;have HZ:=ah hz;have HJ:=ah hj;clear hz;cases gk with
  |zero=>
   obtain rfl:j=k:=by omega
   have he:=dU.out
   rw[aer (fun hm=>by
    obtain⟨a,ha,hae⟩:=ant.1 hm;obtain⟨i,hi,hai⟩:=ao0.1 ha;rw[afo]at hi
    exact HZ.out i a (by omega) (by rw[aen (by omega),<-hai,apK]) hae)]at he
   obtain⟨cv,hcv⟩:=aj (au.check p.val);rw[hcv]at he;have jh:=ah he;obtain⟨g',off',zk',zt',lI,jY,lJ,jZ,eA,hzk',d0,d1,d2,d3,d4,d5,hv'⟩:=HC.out wr HB1.out j p HP.out
   injection eA with eA
   injection eA with e1 e2
   subst e1;subst e2;have hck:=Uu wr.heap.size _ p.val wr (hv' wr HB1.out) (aej _);rw[hcv]at hck;have bH:=ah hck;have t1:decide ((j:Int)<j)=false:=dF (by omega)
   clear he hcv hck hv' hzk' dU HZ hj d0;go_wp2_with fail;refine mq8 bH fun w2 b2=>?_;have HB2:=ah (HB1.trans (b2.mono HB1.size));clear b2 d1 d2 d3 d4 d5 bH;by_cases hc0:cv=0
   case neg=>
    have t1:((cv:Int) !=0)=true:=by rw[afd];omega
    have hr:R=cv:=by rw[<-jh.out,aeu hc0]
    subst hr;clear hc0;go_wp2;go_ret;exact⟨rfl,HB2.out⟩
   subst hc0;have he:=jh.out;rw[aer (by decide)]at he
   have yT:=ah he;clear he jh;go_wp2
   go_roundg q
   case measure=>omega
   exact⟨j+1,int_eq (by omega),by have:=HK.out;omega,HB2.out,yT.out⟩
  |succ q2=>
   have hjk:j<k:=by omega
   have YJ:(j:Int)<k:=by omega
   obtain⟨a,ha⟩: ∃a,ps[j]?=some a:=⟨_,aen (by have:=HN.out;have:=lK.out;omega)⟩
   obtain⟨g',off',zk',zt',lI,jY,lJ,jZ,eA,hzk',d0,-⟩:=HC.out wr HB1.out k p HP.out
   injection eA with eA
   injection eA with e1 e2
   subst e1;subst e2;obtain⟨g',off',zj,zt',lI,jY,lJ,jZ,eA,hzj,d1,-⟩:=HC.out wr HB1.out j a ha
   injection eA with eA
   injection eA with e1 e2
   subst e1;subst e2;have tj:((j:Int)).toNat=j:=by omega
   have hj0:(0:Int)<=j:=by omega
   have hjn:(j:Int)<n:=by omega
   have twj:IntKind.i64.wrap ((j:Int)+1)=(j:Int)+1:=by unfold IntKind.wrap;simp[IntKind.signed,IntKind.bits];omega
   obtain⟨b,hbb⟩:=aj (zj.toList == zk'.toList);have hbk:b=decide (a.key=p.key):=by rw[<-hbb,aod,aod,hzj,hzk',afN,afc,aqr]
   refine gq3 hbk ha hjk fun dP HA YK=>?_;clear hzj hzk' ha hbk hj hjk;cases b with
   |true=>
    have hr:R=7:=by
     rw[<-dU.out,aeu];refine ant.2 ⟨a, ?_,aeL dP.symm⟩;exact aew (i:=j) (by rw[apr,aeu YK.out];exact HA.out)
    subst hr;go_wp2_with fail
    go_quiet (fail)
    go_wp2;go_ret;exact⟨rfl,below_drewN HB1.out _⟩
   |false=>
    have hne:=aex dP.symm;have mG:=ah hne;clear hne;go_wp2_with fail
    go_quiet (fail)
    go_wp2
    go_roundg q2
    case measure=>omega
    case rel=>exact⟨j+1,int_eq (by omega),by have:=HJ.out;omega,below_drewN HB1.out _,fun i y hi hy=>by
     rcases aoD.1 hi with h|h
     ·exact HZ.out i y h hy
     rw[h,HA.out]at hy
     exact aeM hy▸mG.out⟩
end Go.Proofs.YtdijgcnlbfgkdaaGreatDoor
