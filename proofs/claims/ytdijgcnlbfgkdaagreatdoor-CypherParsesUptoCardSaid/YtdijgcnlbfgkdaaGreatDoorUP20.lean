/- Lemmas. -/
import Derived.Test.YtdijgcnlbfgkdaaGreatDoorUP19
set_option maxHeartbeats 64000000
set_option maxRecDepth 1000000
set_option linter.all false
namespace Go.Proofs.YtdijgcnlbfgkdaaGreatDoor
open Go.RowKit Go.Proofs.Tryz
def own_below {w w':World} {B e k n:Nat} {v:Value} {xs:List Value} (h:w.ownsRow B e k v n xs) (hb:Below w.heap.size w w'):w'.ownsRow B e k v n xs:=
 h.kept (row:=none) ⟨hb.os,hb.tape,hb.output,hb.size,fun j hj _=>hb.block j hj⟩ (by cases hv:v.ownBlock<;>simp)
structure PR (W1:World) (l:List (List UInt8)) (A:Option Addr) (n c:Nat) (wx:World):Prop where
 len:l.length=n
 own:wx.ownsRow W1.heap.size 9 1 (.slice A n c) n (l.map ST)
 bel:Below W1.heap.size W1 wx
def PR.below {W1 wx wy:World} {l:List (List UInt8)} {A:Option Addr} {n c:Nat} (h:PR W1 l A n c wx) (hb:Below wx.heap.size wx wy):PR W1 l A n c wy:=
 ⟨h.len,own_below h.own hb,h.bel.trans (hb.mono h.bel.size)⟩
def PR.next {W1 wx wy:World} {l l':List (List UInt8)} {A A':Option Addr} {n c c':Nat} {x:List UInt8} {z:ByteArray} (h:PR W1 l A n c wx) (hz:(⟨x.toArray⟩:ByteArray)=z) (ho:wy.ownsRow W1.heap.size 9 1 (.slice A' (n+1) c') (n+1) (l.map ST++[.string z])) (hb:Below W1.heap.size wx wy) (hl:l'=l++[x]):PR W1 l' A' (n+1) c' wy:=by
 subst hl hz;exact⟨by rw[aeo,h.len];rfl,by rw[afg];exact ho,h.bel.trans hb⟩
def map_take {α β:Type} {l:List α} {k:Nat} {y:α} (h:l[k]?=some y) (f:α->β):(l.take (k+1)).map f=(l.take k).map f++[f y]:=by
 obtain⟨hk,he⟩:=aeK.1 h;rw[af0 hk,afg,he];rfl
structure LoV (v:au.V):Prop where
 ck:au.check v=0
 kind:v.kind=6\/v.kind=8/\v.nums=[]
 ts:v.texts=[]
 ns:v.nums.length<=40
 len:(Cy.lit v).length<=1000
def acD (B:Nat) (u:Value) (v:au.V) (w:World) (h:qM w B u v) (hq:LoV v) (hB:B<=w.heap.size) (hL:Laid w):
  Calls prog 9 #[u] w fun e w'=>e=.returned (.tuple #[.string ⟨(Cy.lit v).toArray⟩,.int .i64 0])/\Below w.heap.size w w':=by
 have hch:=fun(W:World) (hb:Below w.heap.size w W)=>check_any B u v W (h.below (hb.mono hB)) (aep hB hb.size)
 obtain⟨A1,c1,A2,c2,rfl,dK,-⟩:=h.ex;rw[hq.ck]at hch;have xu:=ah h.nums;have hk:=hq.kind;have hts:=hq.ts;have hnl:=hq.ns;have hle:=hq.len;clear h hq;obtain⟨k0,n0,t0,ns,ts⟩:=v;simp only at dK hch xu hk hts hnl hle⊢;subst hts;obtain⟨kk,hkk⟩:=aj (k0 - 4:Int);have hkw:kk=2\/kk=4/\ns=[]:=hk.imp (fun h=>by omega) fun h=>⟨by omega,h.2⟩
 have hk6:6<=k0/\k0<=8:=by rcases hk with h|h<;>omega
 obtain⟨pt,hpt⟩: ∃pt,ns.map (fun n=>Cy.scalar kk n [])=pt:=⟨_,rfl⟩
 have hpr:Cy.lit ⟨k0,n0,t0,ns,[]⟩=[91,58]++Cy.word kk ++(if pt=[] then[] else 32 :: Cy.join [44,32] pt)++[93]:=by
  unfold Cy.lit Cy.parts;simp only[ahr,afy];rw[aer (by omega),hkk,hpt]
 obtain⟨pv,hpv⟩:=aj (Cy.lit ⟨k0,n0,t0,ns,[]⟩);rw[hpv]at hpr hle⊢;obtain⟨nn,hnn⟩:=aj ns.length;obtain⟨z,hz⟩:=aj (⟨t0.toArray⟩:ByteArray);rw[hnn]at dK hch hnl⊢;rw[hz]at hch⊢;rw[afQ]at hch⊢;obtain⟨W1,hW1⟩:=aj (w.alloc (.cells #[.int .i64 k0,.int .i64 n0,.string z,.slice A1 nn c1,.slice A2 0 c2] 43));have hb1:Below w.heap.size w W1:=by rw[<-hW1];exact(aoa _ w).alloc (aej _) _
 have k1:ak W1 w.heap.size 43 #[.int .i64 k0,.int .i64 n0,.string z,.slice A1 nn c1,.slice A2 0 c2]:=by rw[<-hW1];exact ak.new _ _ _
 refine gq9 (dK.below (hb1.mono hB)) hb1 hW1 (hch W1 hb1) hnn k1 hpr hpt hle fun Ae HB1 HW1 GU aC HKB gJ vX gI=>?_;refine gq3 hkw hL hB fun Gu HL eY=>?_;have aq7:(nn:Int)<=40:=by omega
 have t4:decide (k0<=4)=false:=dF (by omega)
 have hkb:6<=k0:=hk6.1;have hkc:k0<=8:=hk6.2;have HKK:=ah hkk;obtain⟨a0,a1,a2,a3,a4,-⟩:=gQ k1;clear dK hnn hz k1 hb1 hW1 hch hpr hpv hle hpt hkw hk hk6 hL hB hnl hkk;have hu:=o9;go_enter func9,ntmps9
 go_upto_region 1 with fail
 rw[HW1.out];clear HW1;go_wp2_with fail;refine mq8 GU fun w2 hb2=>?_;have Nr:=ah (hb2.mono (aej _));clear hb2 a0 a1 a2 a3 a4 GU;obtain⟨a0,a1,a2,a3,a4,-⟩:=gQ (HKB.below Nr.out HKB.lt);have hkk:=HKK.out;go_wp2_with fail
 go_loopg [33,6] nn (fun g x y wr=> ∃(k c:Nat) (A:Option Addr),x=.int .i64 k/\y=.slice A k c/\k+g=nn/\PR W1 ((ns.take k).map (fun n=>Cy.scalar kk n [])) A k c wr)
 case atStart=>exact⟨0,0,none,rfl,rfl,by omega,rfl,arU _ _ _ _,Nr.out⟩
 obtain⟨k,c,A,rfl,rfl,hk,hrel⟩:=hrel;have HQ:=ah hrel;have HK:=ah hk;clear hrel a0 a1 a2 a3 a4;obtain⟨a0,a1,a2,a3,a4,-⟩:=gQ (HKB.below HQ.bel HKB.lt);cases gk with
 |succ g=>
  have hkn:k<nn:=by omega
  have dW:(k:Int)<nn:=by omega
  obtain⟨p,o,x,rfl,-,hx,hp⟩:=(Ae.out.below (HQ.bel.mono (aep eY.out HB1.size))).cell hkn;rw[aeY]at hx;obtain⟨y,hy,rfl⟩:=afr.1 hx;unfold I64 at hp;have afp:=xu.out y (aew hy);obtain rfl:kk=2:=Gu.resolve_right fun h=>by rw[h.2]at hy;cases hy
  have hcall:=ajZ y wr afp (HL.below (HB1.trans (HQ.bel.mono HB1.size)));obtain⟨zx,hzx⟩:=aj (⟨(Cy.scalar 2 y []).toArray⟩:ByteArray);rw[hzx]at hcall;have HC:=ah hcall;have yR:=ah hzx;have hmt:=map_take hy (fun n=>Cy.scalar 2 n [])
  obtain⟨LL,Ns⟩: ∃LL,(ns.take k).map (fun n=>Cy.scalar 2 n [])=LL:=⟨_,rfl⟩
  rw[Ns]at HQ hmt;have X7:=ah hmt;clear hx hy afp hcall hzx hkn hk Ns hmt;go_wp2_with fail;refine mq8 HC fun w3 hb3=>?_;have Az:=ah (HQ.below hb3);clear hb3 HQ;have hbg:=Az.bel.size;have hkl:k<1073741824:=by omega
  go_wp2_with (at_builtin;refine jD rfl (.tmp 37) (.tmp 41) 34 9 (.string ⟨#[]⟩) 16 ar0 DK rfl (by decide) rfl W1.heap.size (.slice A k c) k _ w3 rfl Az.own (.string zx) rfl rfl hkl hbg ?_)
  intro v9 w9 aF aO bI aB;obtain⟨A9,c9,rfl⟩:=aH aF;have oC:=ah (Az.next yR.out aF aB X7.out);clear aF aO bI aB a0 a1 a2 a3 a4;go_wp2
  go_roundg g
  case measure=>omega
  exact⟨k+1,c9,A9,int_eq (by omega),rfl,by have:=HK.out;omega,oC.out⟩
 |zero=>
  obtain rfl:k=nn:=by omega
  have hq:=HQ.out;rw[aeG (by have:=aC.out;omega),vX.out]at hq
  have qh:=ah hq;clear hq HQ hk;go_wp2_with fail
  go_loopg [47,6] 0 (fun g x y wr=>x=.int .i64 0/\y=.slice A k c/\g=0/\PR W1 pt A k c wr)
  case atStart=>exact⟨rfl,rfl,rfl,qh.out⟩
  obtain⟨rfl,rfl,rfl,hrel⟩:=hrel;have HQ:=ah hrel;clear hrel a0 a1 a2 a3 a4 qh;obtain⟨a0,a1,a2,a3,a4,-⟩:=gQ (HKB.below HQ.bel HKB.lt);have oN:=ah (HB1.trans (HQ.bel.mono HB1.size));obtain⟨wz,hwz⟩:=aj (⟨(Cy.word kk).toArray⟩:ByteArray);have hlz:=afL List.length gJ.out;have hle:=gI.out;rw[hlz]at hle;simp only[aeo]at hle;have aq8:wz.size<=1000:=by rw[<-hwz,dR];omega
  have X8:wz.data.toList=Cy.word kk:=by rw[<-hwz]
  have RF:=U1 kk wr ⟨by omega,by omega⟩
  rw[hwz]at RF;have HKC:=ah RF;have HWZ:=ah X8;have hq1:(⟨#[91,58]⟩++wz:ByteArray).size<=1002:=by rw[afU];show 2+wz.size<=1002;omega
  by_cases h0:pt=[]
  ·have hk0:k=0:=by rw[<-HQ.len,h0];rfl
   have qj:=ah (show(⟨pv.toArray⟩:ByteArray)=⟨#[91,58]⟩++wz ++⟨#[93]⟩ by apply aho;rw[gJ.out,aeu h0,<-HWZ.out];simp)
   clear h0 hwz RF X8 hle hlz hkk;subst hk0;go_wp2_with fail;refine iq8 HKC ?_;go_wp2
   go_ret2
   exact⟨by rw[qj.out];rfl,oN.out⟩
  rw[aer h0]at hle
  have hk0:(0:Int)<k:=by
   have:=HQ.len;have h1:0<pt.length:=afB.2 h0;omega
  have tk:decide (0<k)=true:=aei (by omega)
  have hjl:(Cy.join [44,32] pt).length<=1000:=by simp only[ae7]at hle;omega
  have hjc:=ab6 W1.heap.size 9 A c pt wr k HQ.len (by omega) HQ.own (by omega)
  obtain⟨jz,hjz⟩:=aj (⟨(Cy.join [44,32] pt).toArray⟩:ByteArray);rw[hjz]at hjc;have hjs:jz.size<=1000:=by rw[<-hjz,dR];exact hjl
  have qj:=ah (show(⟨pv.toArray⟩:ByteArray)=⟨#[91,58]⟩++wz ++(⟨#[32]⟩++jz) ++⟨#[93]⟩ by apply aho;rw[gJ.out,aer h0,<-HWZ.out,<-hjz];simp)
  have X9:=ah hjc;have hq2:(⟨#[32]⟩++jz:ByteArray).size<=1001:=by rw[afU];show 1+jz.size<=1001;omega
  have hq3:(⟨#[91,58]⟩++wz ++(⟨#[32]⟩++jz):ByteArray).size<=2003:=by rw[afU];omega
  clear h0 hjc hjz hwz RF X8 hle hlz hjl hkk;go_wp2_with fail;refine iq8 HKC ?_;go_wp2_with fail;refine mq8 X9 fun w4 hb4=>?_;have HBG:=ah (oN.trans (hb4.mono oN.size));clear hb4;go_wp2
  go_ret2
  exact⟨by rw[qj.out];rfl,HBG.out⟩
end Go.Proofs.YtdijgcnlbfgkdaaGreatDoor
namespace Go.Proofs.YtdijgcnlbfgkdaaGreatDoor
open Go.RowKit Go.Sort Go.Proofs.Tryz
def yu {β:Type} {V:World} {base T k n c i j:Nat} {A:Option Addr} {l1 l2:List (β×List Value)} {x:β} {cs:List Value} (h:V.ownsRow base T k (.slice A n c) n ((l1 ++(x,cs) :: l2).flatMap Prod.snd)) (h1: ∀y∈l1,y.2.length=k) (hi:l1.length=i) (hc:cs.length=k) (hn:i<n) (hj:j<k):
  ∃g,A=some ⟨g,0,none⟩/\base<=g/\V.cell? ⟨g,i*k+j,none⟩=cs[j]?/\V.frozen? ⟨g,i*k+j,none⟩=false/\ ∀u,(V.setCell ⟨g,i*k+j,none⟩ u).ownsRow base T k (.slice A n c) n ((l1 ++(x,cs.set j u) :: l2).flatMap Prod.snd):=by
 have ht:i*k+j<n*k:=by have:=ahg k (show i+1<=n from hn);rw[an1]at this;omega
 obtain⟨g,hA,hg,hcell,hf,hs⟩:=yh h ht;have hlen:=KT (f:=Prod.snd) h1;refine⟨g,hA,hg, ?_,hf,fun u=> ?_⟩
 ·rw[hcell,afR,agF,ag1 (by rw[hlen,hi];omega),hlen,hi,apu,anD (by rw[hc];exact hj)]
 have:=hs u;rw[<-hi]at this⊢
 rwa [akz h1 (by rw[hc];exact hj)]at this
def eG.kept {w w':World} {B:Nat} {x:Gr.P×List Value} {e' n' size':Nat} {r:Value} {ys:List Value} (h:eG w B x) (hg:w.grownBy w' r.ownBlock) (hr:w.ownsRow B e' size' r n' ys) (h1:e'≠2) (h2:e'≠9):eG w' B x:=by
 obtain⟨s,t,e,o1,o2⟩:=h;exact⟨s,t,e,DN o1 hg hr h1,DN o2 hg hr h2⟩
def eG.acE {w w':World} {B:Nat} {x:Gr.P×List Value} (h:eG w B x) (hb:Below w.heap.size w w'):eG w' B x:=by
 obtain⟨s,t,e,o1,o2⟩:=h;exact⟨s,t,e,own_below o1 hb,own_below o2 hb⟩
def eG.len {w:World} {B:Nat} {x:Gr.P×List Value} (h:eG w B x):x.2.length=6:=by
 obtain⟨s,t,e,-,-⟩:=h;rw[e];rfl
def bg.len {w:World} {B:Nat} {p:Gr.P} {cs:List Value} (h:bg w B p cs):cs.length=6:=by
 obtain⟨An,cn,At,ct,e,-,-⟩:=h;rw[e];rfl
structure Nu (w:World) (B:Nat) (ps:List Gr.P) (A:Option Addr) (n c i:Nat) (V:World):Prop where
 ex: ∃l1 l2:List (Gr.P×List Value),l1.length=i/\(l1++l2).map Prod.fst=ps/\(∀x∈l1,eG V w.heap.size x)/\(∀x∈l2,bg w B x.1 x.2)/\V.ownsRow w.heap.size 143 6 (.slice A n c) n ((l1++l2).flatMap Prod.snd)
 bel:Below w.heap.size w V
def akU {w:World} {B:Nat} {x:Gr.P×List Value} (h:eG w B x): ∃e:EP,wQ e=x.2/\e.1=x.1.key:=by
 obtain⟨s,t,e,h1,h2⟩:=h;obtain⟨As,cs,rfl⟩:=aH h1;obtain⟨At,ct,rfl⟩:=aH h2;exact⟨(x.1.key,x.1.val.kind,x.1.val.num,x.1.val.text,(As,x.1.val.nums.length,cs),(At,x.1.val.texts.length,ct)),e.symm,rfl⟩
def Nu.sorted {w V:World} {B n c g:Nat} {ps:List Gr.P} (h:Nu w B ps (some ⟨g,0,none⟩) n c n V) (hn:ps.length=n) (hd:(ps.map Gr.P.key).Nodup): ∃d:Array EP,d.size=n/\RowK wQ 6 V g 0 d/\
  ∀V' d',d'.size=n->SWK wQ 6 V g 0 d' V'->ig.bJ JL d'.toList->d'.toList.Perm d.toList->aT 143 V' w.heap.size (.slice (some ⟨g,0,none⟩) n c) (Gr.kV ps)/\Below w.heap.size w V':=by
 obtain⟨l1,l2,h1,h2,h3,-,h5⟩:=h.ex
 have hl2:l2=[]:=by
  have:=afL List.length h2;rw[aeP,aeo,h1,hn]at this;exact aeI (by omega)
 subst hl2;rw[afy]at h2 h5;obtain⟨q,q1,q2⟩:=Qq (enc:=wQ) (ka:=fun e:EP=>e.1) (kb:=Gr.P.key) (fun x hx=>akU (h3 x hx))
 have hq:q.length=n:=by rw[<-h1,<-q1,aeP]
 have e1:=Qr (enc:=wQ) (fun y hy=>(q2 y hy).1)
 rw[q1]at e1;have hk: ∀x,(wQ x).length=6:=fun x=>rfl
 refine⟨(q.map Prod.snd).toArray,by simp[hq],Vo hk (fun x v hv=> ?_) (by rw[anG,e1];exact h5) (by simp[hq]),fun V' d' hs S hsrt hp=> ?_⟩
 ·simp only[wQ,aga,anX,apz]at hv
  rcases hv with rfl|rfl|rfl|rfl|rfl|rfl<;>rfl
 obtain⟨o1,o2⟩:=Vp hk h5 hs S;rw[anG]at hp;obtain⟨l',p1,p2,p3⟩:=Vr FY (ka:=fun e:EP=>e.1) q1 q2 hp hsrt (by rw[h2];exact hd)
 rw[h2]at p3;have hlen:(Gr.kV ps).length=n:=by rw[<-hn];exact(ag8 _ _).length_eq
 refine⟨⟨l',p3,fun x hx=>(h3 x (p1.mem_iff.1 hx)).kept (r:=.slice (some ⟨g,0,none⟩) n c) o2 h5 (by decide) (by decide),by rw[hlen,<-p2];exact o1⟩,h.bel.grown o2 h.bel.size (fun k hk=>(ar5 h5 k hk).1)⟩
def acF (B:Nat) (A:Option Addr) (c:Nat) (ps:List Gr.P) (w:World) (h:dD w B 6 (bg w B) A ps) (hB:B<=w.heap.size) (hl:ps.length<=1073741824) (hok: ∀p∈ps,vT p) (hd:(ps.map Gr.P.key).Nodup):
  Calls prog 46 #[.slice A ps.length c] w fun e w'=> ∃v',e=.returned v'/\aT 143 w' w.heap.size v' (Gr.kV ps)/\Below w.heap.size w w':=by
 obtain⟨lp,hp1,hp2,hr⟩:=h.pairs;obtain⟨n,hn⟩:=aj ps.length
 have hone: ∀u∈lp.flatMap Prod.snd,u.oneCell'=true:=fun u hu=>by
  obtain⟨x,hx,hu⟩:=ahd.1 hu;obtain⟨⟨An,cn,At,ct,e,-,-⟩,-⟩:=hp2 x hx;rw[e]at hu;simp only[aga,anX,apz]at hu
  rcases hu with rfl|rfl|rfl|rfl|rfl|rfl<;>rfl
 rw[hn]at hr hl⊢;refine gq6 (akP B A c n _ w hr hone hl hB) hp1 hp2 hn hok hd fun Af GX HP2 HN bF HD=>?_;have hBw:=hB;clear h hone hr hp1 hp2 hn hok hd;go_enter func46,ntmps46;go_wp2_with fail;refine Af.mono ?_;rintro e w1 ⟨v1,rfl,ho,hb⟩;obtain⟨A1,c1,rfl⟩:=aH ho;have HS:=ah (show Nu w B ps A1 n c1 0 w1 from⟨⟨[],lp,rfl,GX.out,by simp,fun x hx=>(HP2.out x hx).1,ho⟩,hb⟩)
 clear ho hb Af;go_wp2_with fail
 go_loopg [9] n (fun kx s9 wr=> ∃i:Nat,s9=.int .i64 i/\i+kx=n/\Nu w B ps A1 n c1 i wr)
 case atStart=>exact⟨0,rfl,by omega,HS.out⟩
 obtain⟨i,rfl,hk,hs⟩:=hrel;have HR:=ah hs;clear hs HS;cases gk with
 |zero=>
  obtain rfl:i=n:=by omega
  cases A1 with
  |none=>
   obtain⟨l1,l2,h1,h2,-,-,h5⟩:=HR.ex
   rcases h5.2 with⟨e,h0⟩|⟨g,cap,cur,e,-⟩
   ·cases e
    have hp0:ps=[]:=aeI HN.out;subst hp0;go_wp2_with fail;refine(akK _ _ _ _).mono ?_;rintro e w' ⟨rfl,rfl⟩;go_wp2;go_ret;exact⟨_,rfl,by rw[show Gr.kV []=[] from an7];exact aT.nil _ _ _,HR.bel⟩
   cases e
  |some a=>
   obtain⟨g,rfl⟩: ∃g,a=⟨g,0,none⟩:=by
    obtain⟨l1,l2,h1,h2,-,-,h5⟩:=HR.ex
    rcases h5.2 with⟨e,h0⟩|⟨g,cap,cur,e,-⟩
    ·cases e
    cases e;exact⟨g,rfl⟩
   obtain⟨d,d1,d2,d3⟩:=HR.sorted HN.out HD.out;have fK:=ah (akJ (cap:=c1) d2 d1 hl);have HD3:=ah d3;clear d1 d2 d3;go_wp2_with fail;refine fK.mono ?_;rintro e w' ⟨rfl,d',h1,h2,h3,h4⟩;have HF:=ah (HD3.out w' d' h1 h2 h3 h4);clear h1 h2 h3 h4;go_wp2;go_ret;exact⟨_,rfl,HF.out⟩
 |succ kq=>
  have hin:i<n:=by omega
  have Nv:(i:Int)<(n:Int):=by omega
  obtain⟨l1,l2,h1,h2,h3,h4,h5⟩:=HR.ex;have hbel:=HR.bel
  obtain⟨⟨p,cs⟩,l3,rfl⟩: ∃x l3,l2=x :: l3:=by
   cases l2 with
   |nil=>
    have:=afL List.length h2;rw[afy,aeP,h1,HN.out]at this;omega
   |cons x r=>exact⟨x,r,rfl⟩
  obtain⟨An,cn,At,ct,rfl,dK,dN⟩:=(show bg w B p cs from h4 (p,cs) (aph ..))
  have iV:=bF.out p (by rw[<-h2];simp)
  have hpl: ∀y∈l1,y.2.length=6:=fun y hy=>(h3 y hy).len
  obtain⟨nl,hnl⟩:=aj p.val.nums.length;obtain⟨tl,htl⟩:=aj p.val.texts.length;have yS:nl<=1073741824:=hnl▸iV.val.nl;have ML:tl<=1073741824:=htl▸iV.val.sl;rw[hnl]at dK h5;rw[htl]at dN h5;have hw1:w.heap.size<=wr.heap.size:=hbel.size;obtain⟨g,rfl,hg,c4,f4,-⟩:=yu (j:=4) h5 hpl h1 rfl hin (by decide)
  simp only[aeQ,aev]at c4;refine gq6 (akO B An cn nl _ wr (dK.below (hbel.mono hBw)) (fun u hu=>by obtain⟨y,-,rfl⟩:=ant.1 hu;rfl) yS (aep hBw hw1)) (And.intro h1 (And.intro h2 (And.intro h3 (And.intro h4 (And.intro hpl (And.intro hnl htl)))))) h5 dN hg hbel fun lu HH H5 ql HG HB=>?_
  clear h1 h2 h3 h4 h5 hpl hnl htl dK dN hg HR hbel iV;go_wp2_with fail;refine lu.mono ?_;rintro e w2 ⟨v2,rfl,o2,b2⟩;obtain⟨A2,c2,rfl⟩:=aH o2;have hh:=HH.out;have r2:=own_below H5.out b2;obtain⟨g',e',-,Ya,f4',Nw⟩:=yu (j:=4) r2 hh.2.2.2.2.1 hh.1 rfl hin (by decide)
  cases e';simp only[aeQ,aev]at Ya;have row3:=Nw (.slice A2 nl c2);simp only[aeE,aeD]at row3;obtain⟨W3,hW3⟩:=aj (w2.setCell ⟨g,i*6+4,none⟩ (.slice A2 nl c2));have hgs:w2.grownBy W3 (some g):=hW3▸grownBy_set w2 ⟨g,i*6+4,none⟩ _;rw[hW3]at row3;have b3:Below w.heap.size w W3:=hW3▸(HB.trans (b2.mono hw1)).setCell HG.out _;obtain⟨g',e',-,c5,f5,-⟩:=yu (j:=5) row3 hh.2.2.2.2.1 hh.1 rfl hin (by decide)
  cases e';simp only[aeQ,aev]at c5;have HC2:=ah (acC B At ct tl _ W3 (ql.below (b3.mono hBw)) (fun u hu=>by obtain⟨y,-,rfl⟩:=ant.1 hu;rfl) ML (aep hBw b3.size))
  have o3:=DN (x:=.slice (some ⟨g,0,none⟩) n c1) (jL o2 hw1) hgs r2 (by decide)
  have hp3: ∀x∈l1,eG W3 w.heap.size x:=fun x hx=>((hh.2.2.1 x hx).acE b2).kept (r:=.slice (some ⟨g,0,none⟩) n c1) hgs r2 (by decide) (by decide)
  have HX:=ah (And.intro row3 (And.intro o3 (And.intro hp3 b3)));have oK:=ah hh;clear o2 b2 r2 Nw hgs row3 b3 o3 hp3 hh HH H5 ql HB lu;go_wp2_with fail;refine HC2.mono ?_;rintro e w4 ⟨v4,rfl,o4,b4⟩;obtain⟨A4,c6,rfl⟩:=aH o4;clear hW3;obtain⟨row3,o3,hp3,b3⟩:=HX.out;have hh:=oK.out;have r4:=own_below row3 b4;obtain⟨g',e',-,c7,f7,st5⟩:=yu (j:=5) r4 hh.2.2.2.2.1 hh.1 rfl hin (by decide)
  cases e';simp only[aeQ,aev]at c7;have RG:=st5 (.slice A4 tl c6);simp only[aeE,aeD]at RG;obtain⟨W5,fU⟩:=aj (w4.setCell ⟨g,i*6+5,none⟩ (.slice A4 tl c6));have hgs:w4.grownBy W5 (some g):=fU▸grownBy_set w4 ⟨g,i*6+5,none⟩ _;rw[fU]at RG;have b5:Below w.heap.size w W5:=fU▸(b3.trans (b4.mono b3.size)).setCell HG.out _;have o5:=DN (x:=.slice (some ⟨g,0,none⟩) n c1) (jL o4 b3.size) hgs r4 (by decide)
  have o6:=DN (x:=.slice (some ⟨g,0,none⟩) n c1) (own_below o3 b4) hgs r4 (by decide)
  have hs:=ah (show Nu w B ps (some ⟨g,0,none⟩) n c1 (i+1) W5 from by
   refine⟨⟨l1++[(p,[ST p.key,.int .i64 p.val.kind,.int .i64 p.val.num,ST p.val.text,.slice A2 nl c2,.slice A4 tl c6])],l3,by simp[hh.1],by simpa using hh.2.1,fun x hx=> ?_,fun x hx=>hh.2.2.2.1 x (ahj _ hx),by simpa using RG⟩,b5⟩
   rcases afq.1 hx with hx|hx
   ·exact((hp3 x hx).acE b4).kept (r:=.slice (some ⟨g,0,none⟩) n c1) hgs r4 (by decide) (by decide)
   rw[afm.1 hx];refine⟨_,_,rfl, ?_, ?_⟩
   ·show W5.ownsRow w.heap.size 2 1 (.slice A2 nl c2) p.val.nums.length (p.val.nums.map I64)
    rw[hh.2.2.2.2.2.1];exact o6
   show W5.ownsRow w.heap.size 9 1 (.slice A4 tl c6) p.val.texts.length (p.val.texts.map ST)
   rw[hh.2.2.2.2.2.2];exact o5)
  clear o4 b4 HX hh r4 st5 RG hgs b5 o5 o6 row3 o3 hp3 b3 oK HC2;go_wp2_with fail
  go_roundg kq
  case measure=>omega
  exact⟨i+1,by simp,by omega,hs.out⟩
end Go.Proofs.YtdijgcnlbfgkdaaGreatDoor
