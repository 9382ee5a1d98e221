/- Contracts and plain laws,part 41. -/
import Derived.Test.YtoofbflplhbpbaaGreatDoorUO39
import Derived.Test.YtoofbflplhbpbaaGreatDoorUO40
set_option maxHeartbeats 64000000
set_option maxRecDepth 1000000
set_option linter.all false
namespace Go.Proofs.YtoofbflplhbpbaaGreatDoor
open Go.RowKit
def BL (l:List (List UInt8)):List UInt8:=if l= [] then [] else 32 :: Cy.join [44,32] l
theorem TN (sep x:List UInt8): ∀l:List (List UInt8),Cy.join sep (l ++ [x])=if l= [] then x else Cy.join sep l ++ sep ++ x
 | []=>rfl
 | [a]=>rfl
 | a :: b :: r=>by
  have:=TN sep x (b :: r);rw [ab6 (by simp)] at this⊢
  rw [show (a :: b :: r) ++ [x]=a :: b ::(r ++ [x]) from rfl,Cy.join,Cy.join,show b ::(r ++ [x])=(b :: r) ++ [x] from rfl,this]
  simp
theorem ajQ (l:List (List UInt8)) (x:List UInt8):BL (l ++ [x])=BL l ++((if l= [] then [32] else [44,32]) ++ x):=by
 unfold BL;rw [ab6 (by simp),TN]
 split<;> simp_all
theorem ajR {l:List (List UInt8)} (h: ∀x∈l,x.length<=4002) (hl:l.length<=80):(BL l).length<=400000:=by
 unfold BL
 split
 ·simp
 have h1:=IY [44,32] 4002 l h;have h2:l.length*(4002+2)<=80*(4002+2):=akh _ hl
 simp only [acd,adk] at h1⊢;omega
theorem abJ {k n:Int} (h:ak.eY k n=0) (h1:1<=k) (h3:k<=3):ak.vC k n=Cy.scalar k n []:=by
 unfold ak.eY at h;unfold ak.vC Cy.scalar
 rcases (show k=1\/k=2\/k=3 by omega) with rfl | rfl | rfl
 ·by_cases h0:n=0
  ·subst h0;simp
  by_cases h1:n=1
  ·subst h1;simp
  simp [h0,h1] at h
 ·simp
 simp
theorem abK {k:Int}: ∀{l:List Int},ak.jd k l=0-> ∀n∈l,ak.eY k n=0
 | [],_,n,hn=>by cases hn
 | a :: r,h,n,hn=>by
  rw [ak.jd] at h
  split at h
  ·rename_i hne;exact absurd h hne
  rename_i hz
  rcases adK.1 hn with rfl | hn
  ·exact Decidable.not_not.1 hz
  exact abK h n hn
theorem ajS {v:ak.V} (h:ak.check v=0):1<=v.kind/\v.kind<=8/\(v.kind<4->ak.vC v.kind v.num=Cy.scalar v.kind v.num v.text)/\v.text.length<=1000/\(∀t∈v.texts,t.length<=1000)/\(4<v.kind->(v.kind=8->v.nums= [])/\(v.kind≠8->v.texts= []/\ ∀n∈v.nums,ak.vC (v.kind - 4) n=Cy.scalar (v.kind - 4) n [])):=by
 unfold ak.check at h
 split at h
 ·cases h
 rename_i hk
 split at h
 ·cases h
 rename_i hu
 split at h
 ·cases h
 split at h
 ·cases h
 rename_i ht;have hk1:1<=v.kind:=by omega
 have hk8:v.kind<=8:=by omega
 have hlong: ∀t∈v.texts,t.length<=1000:=fun t htm=>by
  have h2:ak.jr v.texts=false:=by
   cases hl:ak.jr v.texts with
   | false=>rfl
   | true=>exact absurd (.inr hl) ht
  unfold ak.jr at h2;have:=am9.1 h2 t htm
  simpa using this
 refine ⟨hk1,hk8,fun h4=> ?_,by omega,hlong,fun h4=>⟨fun h8=> ?_,fun h8=>⟨?_,fun n hn=> ?_⟩⟩⟩
 ·rw [ab7 h4] at h
  have hte:v.text= []:=akM fun hne=>hu (.inr (.inl ⟨hne,by omega⟩))
  rw [hte];exact abJ h hk1 (by omega)
 ·exact akM fun hne=>hu (.inr (.inr (.inl ⟨hne, .inr h8⟩)))
 ·exact akM fun hne=>hu (.inr (.inr (.inr ⟨hne,h8⟩)))
 rw [ab6 (by omega)] at h
 exact abJ (abK h n hn) (by omega) (by omega)
structure wV (k:Int) (l:List (List UInt8)) (zo zl:ByteArray) (W V:World):Prop where
 out:zo.data.toList= [91,58] ++ Cy.word k ++ BL l
 led:zl.data.toList=if l= [] then [32] else [44,32]
 bel:Below W.heap.size W V
theorem wV.next {k:Int} {l:List (List UInt8)} {zo zl zn z1 z2:ByteArray} {W V V':World} {x:List UInt8} (h:wV k l zo zl W V) (hb:Below V.heap.size V V') (hn:zn.data.toList=x) (h1:zo ++ zl=z1) (h2:z1 ++ zn=z2):wV k (l ++ [x]) z2 ⟨#[44,32]⟩ W V':=by
 refine ⟨?_,by rw [ab6 (by simp)],h.bel.trans (hb.mono h.bel.size)⟩
 rw [<-h2,<-h1,aep,aep,aey,aey,h.out,h.led,hn,ajQ];simp
theorem wV.sizes {k:Int} {l:List (List UInt8)} {zo zl:ByteArray} {W V:World} (h:wV k l zo zl W V) (hl: ∀x∈l,x.length<=4002) (hn:l.length<=80):zo.size<=400007/\zl.size<=2:=by
 have h1:=Lib.size_eq zo;have h2:=Lib.size_eq zl;have h3:=ajR hl hn;have h4:=I4 k
 constructor
 ·rw [h1,h.out]
  simp only [dA,acd,adk];omega
 rw [h2,h.led]
 split<;> simp
theorem ajT (B:Nat) (u:Value) (v:ak.V) (w:World) (h:jR w B u v) (hB:B<=w.heap.size):
  Calls Tryz.prog 18 #[u] w fun e w'=>e= .returned (.tuple #[.string ⟨(Cy.rV v).1.toArray⟩, .int .i64 ((Cy.rV v).2:Nat)])/\Below w.heap.size w w':=by
 have hch:=fun (W:World) (hb:Below w.heap.size w W)=>QH B u v W (h.below (hb.mono hB)) (ab5 hB hb.size)
 have hin:=h.nums;have hi0:=h.num;have hkn:=h.kin;obtain ⟨A1,c1,A2,c2,rfl,cO,bP⟩:=h.ex
 clear h;obtain ⟨R,hR⟩: ∃R,Cy.rV v=R:=⟨_,rfl⟩;rw [hR];unfold Cy.rV at hR
 obtain ⟨cv,hcv⟩: ∃c,ak.check v=c:=⟨_,rfl⟩;have hcl:=fun h:cv=0=>ajS (hcv.trans h)
 have hpl:=fun h:cv=0=>SN (hcv.trans h) hin
 rw [hcv] at hR hch;obtain ⟨nn,hnn⟩: ∃n,v.nums.length=n:=⟨_,rfl⟩
 obtain ⟨tn,htn⟩: ∃n,v.texts.length=n:=⟨_,rfl⟩
 obtain ⟨z,hz⟩: ∃z:ByteArray,(⟨v.text.toArray⟩:ByteArray)=z:=⟨_,rfl⟩
 obtain ⟨k0,hk0⟩: ∃k,v.kind=k:=⟨_,rfl⟩;rw [hnn] at cO hch⊢;rw [htn] at bP hch⊢
 rw [hz] at hch⊢;rw [hk0] at hkn hch⊢
 obtain ⟨W1,hW1⟩: ∃W1,w.alloc (.cells #[.int .i64 k0, .int .i64 v.num, .string z, .slice A1 nn c1, .slice A2 tn c2] 25)=W1:=⟨_,rfl⟩
 have hb1:Below w.heap.size w W1:=by rw [<-hW1];exact (Below.refl _ w).alloc (ab1 _) _
 have k1:aj W1 w.heap.size 25 #[.int .i64 k0, .int .i64 v.num, .string z, .slice A1 nn c1, .slice A2 tn c2]:=by rw [<-hW1];exact aj.new _ _ _
 obtain ⟨a0,a1,a2,a3,a4,-⟩:=gY k1
 have HV:=ah (And.intro (And.intro hnn htn) (And.intro (And.intro hz hk0) (And.intro hin hi0)))
 have jV:=ah (And.intro cO bP);have yE:=ah (hch W1 hb1);have aT:=ah k1;have HB1:=ah hb1
 have aH:=ah hB;have HR:=ah hR;have wu:=ah hcl;have iP:=ah hpl;have jH:=ah hkn
 clear hch hin hi0 cO bP hR hcv hcl hpl hnn htn hz hk0 hb1 k1 hB hkn
 go_enter Tryz.func18,Tryz.ntmps18;go_wp2_with fail;refine yE.out.mono ?_
 rintro e w2 ⟨rfl,b2⟩;have k2:=aT.out.below b2 aT.out.lt
 have b1:=HB1.out.trans (b2.mono HB1.out.size);clear a0 a1 a2 a3 a4
 obtain ⟨a0,a1,a2,a3,a4,-⟩:=gY k2;have aC:=ah k2;have HB2:=ah b1;clear yE k2 b1 b2
 by_cases hc:cv=0
 ·subst hc
  have hcl:=wu.out rfl;rw [HV.out.2.1.2] at hcl;have hR1:=HR.out;rw [ab7 rfl] at hR1
  obtain ⟨pv,hpv⟩: ∃c,Cy.lit v=c:=⟨_,rfl⟩;rw [hpv] at hR1;subst hR1;have Ew:=ah hpv
  have HC:=ah hcl;have hk1:=hcl.1;have hk8:=hcl.2.1;clear hcl hpv wu;by_cases h4:k0<4
  ·have hs:=HC.out.2.2.1 h4
   have hn:=abG k0 v.num w2 hk1 (by omega) HV.out.2.2.2
   have hpv:=Ew.out;unfold Cy.lit at hpv;rw [HV.out.2.1.2,ab7 (by omega),<-hs] at hpv
   rw [hpv] at hn;have HN:=ah hn;clear hs hn hpv;go_wp2_with fail;refine HN.out.mono ?_
   rintro e w3 ⟨rfl,b3⟩;have HB3:=ah (HB2.out.trans (b3.mono HB2.out.size));clear b3
   go_wp2
   go_ret2
   exact ⟨rfl,HB3.out⟩
  by_cases h5:k0=4
  ·subst h5
   have hpv:=Ew.out;unfold Cy.lit at hpv;rw [HV.out.2.1.2,ab7 (by omega)] at hpv
   have hq:=abI z w2 (by rw [<-HV.out.2.1.1,bf];exact ab5 HC.out.2.2.2.1 (by decide))
   rw [show z.data.toList=v.text by rw [<-HV.out.2.1.1]] at hq
   rw [show Cy.scalar 4 v.num v.text=Lex.quote v.text from rfl] at hpv
   rw [hpv] at hq;have HQ:=ah hq;clear hq hpv;go_wp2_with fail;refine HQ.out.mono ?_
   rintro e w3 ⟨rfl,b3⟩;have HB3:=ah (HB2.out.trans (b3.mono HB2.out.size));clear b3
   go_wp2
   go_ret2
   exact ⟨rfl,HB3.out⟩
  have h5':4<k0:=by omega
  obtain ⟨kk,hkk⟩: ∃kk:Nat,k0=(kk:Int)+5:=⟨(k0 - 5).toNat,by omega⟩
  have hk4:kk<4:=by omega
  have qQ:(kk:Int)<4:=by omega
  have r5:IntKind.i64.wrap (k0 - 5)=(kk:Int):=by rw [IntKind.wrap_i64];omega
  obtain ⟨k4,Xf⟩: ∃k4,k0 - 4=k4:=⟨_,rfl⟩
  have r4:IntKind.i64.wrap (k0 - 4)=k4:=by rw [IntKind.wrap_i64];omega
  obtain ⟨wz,hwz⟩: ∃z:ByteArray,(⟨(Cy.word k4).toArray⟩:ByteArray)=z:=⟨_,rfl⟩
  obtain ⟨W3,hW3⟩: ∃x,w2.alloc (.cells #[.string ⟨#[98,111,111,108]⟩, .string ⟨#[105,110,116]⟩, .string ⟨#[102,108,111,97,116]⟩, .string ⟨#[116,101,120,116]⟩] 82)=x:=⟨_,rfl⟩
  have hb3:Below w2.heap.size w2 W3:=hW3▸(Below.refl _ _).alloc (ab1 _) _
  have hcell:W3.cell? ⟨w2.heap.size,kk,none⟩=some (.string wz):=by
   rw [<-hW3,(aj.new w2 82 _).cell,<-hwz,<-Xf]
   rcases (show kk=0\/kk=1\/kk=2\/kk=3 by omega) with rfl | rfl | rfl | rfl<;>(rw [hkk];rfl)
  have hk3:=aC.out.below hb3 aC.out.lt;have hb4:=HB2.out.trans (hb3.mono HB2.out.size)
  have t4:decide (k0<4)=false:=abX (by omega)
  have t5:(k0 == 4)=false:=by simp;omega
  have hwl:(⟨#[91,58]⟩ ++ wz:ByteArray).size<=7:=by
   have h2:(⟨(Cy.word k4).toArray⟩:ByteArray).size=(Cy.word k4).length:=bf _;have:=I4 k4
   rw [adG,<-hwz,h2]
   show 2+_<=7
   omega
  obtain ⟨oz,hoz⟩: ∃z,(⟨#[91,58]⟩ ++ wz:ByteArray)=z:=⟨_,rfl⟩
  have hol:oz.data.toList= [91,58] ++ Cy.word k4:=by rw [<-hoz,<-hwz];simp
  have hwb:(2:Nat)+wz.size<=7:=by rw [adG] at hwl;exact hwl
  obtain ⟨a0,a1,a2,a3,a4,-⟩:=gY hk3
  have HX:=ah (And.intro hkk (And.intro Xf (And.intro hwz hol)));have bJ:=ah hk3
  have HB4:=ah hb4;have amO:1<=k4:=by omega
  have aov:k4<=4:=by omega
  clear hkk Xf hwz hol hk3 hb4 hb3 hk4 h4 h5 h5' hwl
  have fK:=ah (show v.nums.length<=80/\ ∀y∈v.nums.map (fun n=>Cy.scalar k4 n []),y.length<=4002 by
   obtain ⟨q1,q2⟩:=iP.out (by trivial)
   unfold Cy.parts at q1 q2;rw [HV.out.2.1.2,HX.out.2.1] at q1 q2;rw [dA,ace,ace] at q1
   exact ⟨by omega,fun y hy=>q2 y (akY _ hy)⟩)
  have aow:nn<=80:=by have:=fK.out.1;have:=HV.out.1.1;omega
  go_wp2_with fail
  go_loopg [8,6,7] nn (fun kx x y l wr=> ∃(i:Nat) (zo zl:ByteArray),x= .int .i64 i/\y= .string zo/\l= .string zl/\i+kx=nn/\Hid (wV k4 ((v.nums.take i).map (fun n=>Cy.scalar k4 n [])) zo zl W3 wr))
  case atStart=>exact ⟨0,oz,⟨#[32]⟩,rfl,rfl,rfl,by omega,⟨by rw [HX.out.2.2.2];simp [BL],rfl,Below.refl _ _⟩⟩
  obtain ⟨i,zo,zl,rfl,rfl,rfl,hk,hrl⟩:=hrel;have hr:wV _ _ _ _ _ _:=hrl
  obtain ⟨a0,a1,a2,a3,a4,-⟩:=gY (bJ.out.below hr.bel bJ.out.lt);have aW:=ah hr
  clear hrl hr;cases gk with
  | zero=>
   obtain rfl:i=nn:=by omega
   have htk:v.nums.take i=v.nums:=acg (by have:=HV.out.1.1;omega)
   have hrl:=aW.out;rw [htk] at hrl;have aW:=ah hrl
   have yM:=ah (show v.nums.length+v.texts.length<=80/\ ∀y∈v.nums.map (fun n=>Cy.scalar k4 n []) ++ v.texts.map (fun t=>Cy.scalar k4 0 t),y.length<=4002 by
    obtain ⟨q1,q2⟩:=iP.out (by trivial)
    unfold Cy.parts at q1 q2;rw [HV.out.2.1.2,HX.out.2.1] at q1 q2;rw [dA,ace,ace] at q1
    exact ⟨q1,q2⟩)
   have aox:tn<=80:=by have:=yM.out.1;have:=HV.out.1.2;omega
   clear hrl htk hk;go_wp2_with fail
   go_loopg [9,6,7] tn (fun kx x y l wx=> ∃(j:Nat) (zo zl:ByteArray),x= .int .i64 j/\y= .string zo/\l= .string zl/\j+kx=tn/\Hid (wV k4 (v.nums.map (fun n=>Cy.scalar k4 n []) ++(v.texts.take j).map (fun t=>Cy.scalar k4 0 t)) zo zl W3 wx))
   case atStart=>exact ⟨0,zo,zl,rfl,rfl,rfl,by omega,by rw [akd,aek,acK];exact aW.out⟩
   clear aW;obtain ⟨j,zo,zl,rfl,rfl,rfl,hk,hrl⟩:=hrel;have hr:wV _ _ _ _ _ _:=hrl
   obtain ⟨a0,a1,a2,a3,a4,-⟩:=gY (bJ.out.below hr.bel bJ.out.lt);have aW:=ah hr
   clear hrl hr;cases gk with
   | zero=>
    obtain rfl:j=tn:=by omega
    have htk:v.texts.take j=v.texts:=acg (by have:=HV.out.1.2;omega)
    obtain ⟨hs1,-⟩:=aW.out.sizes (fun y hy=>by rw [htk] at hy;exact yM.out.2 y hy) (by rw [htk,dA,ace,ace];exact yM.out.1)
    have ho:=aW.out.out;rw [htk] at ho;have hpv:=Ew.out;unfold Cy.lit Cy.parts at hpv
    rw [HV.out.2.1.2,HX.out.2.1,ab6 (by have:=HX.out.1;omega)] at hpv
    have hfin:(⟨pv.toArray⟩:ByteArray)=zo ++⟨#[93]⟩:=by
     apply adW
     rw [aep,<-hpv]
     apply amU.1
     rw [aey,ho];unfold BL;simp
    have hsum:zo.size+1<=400008:=by omega
    have hb:=HB4.out.trans (aW.out.bel.mono HB4.out.size);have HF:=ah (And.intro hfin hb)
    clear htk hs1 ho hpv hfin hb;go_wp2_with fail
    go_ret2
    exact ⟨by rw [HF.out.1];rfl,HF.out.2⟩
   | succ kq=>
    have hin:j<tn:=by omega
    have G6:(j:Int)<(tn:Int):=by omega
    obtain ⟨b,off,n,rfl,hlt,hn,hcn⟩:=Reads.at_ (jV.out.2.below ((HB4.out.trans (aW.out.bel.mono HB4.out.size)).mono aH.out)) hin
    rw [acJ] at hn;obtain ⟨x,hx,rfl⟩:=ac7.1 hn;have hm:=acf hx
    have hxl:=HC.out.2.2.2.2.1 x hm
    have BO:k4=4:=by
     have h1:=HX.out.1;have h2:=HX.out.2.1;by_cases h8:k0=8
     ·omega
     rw [((HC.out.2.2.2.2.2 (by omega)).2 h8).1] at hx;cases hx
    obtain ⟨zx,hzx⟩: ∃z:ByteArray,(⟨x.toArray⟩:ByteArray)=z:=⟨_,rfl⟩
    have hN:=abI zx wr (by rw [<-hzx,bf];omega)
    rw [show zx.data.toList=x by rw [<-hzx]] at hN
    have hsc:Lex.quote x=Cy.scalar k4 0 x:=by rw [BO];rfl
    rw [hsc] at hN
    obtain ⟨zn,hzn⟩: ∃z:ByteArray,(⟨(Cy.scalar k4 0 x).toArray⟩:ByteArray)=z:=⟨_,rfl⟩
    rw [hzn] at hN;have ET:zn.data.toList=Cy.scalar k4 0 x:=by rw [<-hzn]
    have hzs:zn.size<=4002:=by rw [Lib.size_eq,ET];exact IZ ⟨by decide,by decide⟩ hxl
    obtain ⟨hs1,hs2⟩:=aW.out.sizes (fun y hy=>yM.out.2 y (by
     rcases acU.1 hy with hy | hy
     ·exact akY _ hy
     exact alv _ (List.map_subset _ (List.take_subset j _) hy))) (by rw [dA,ace,ace,acW];have:=yM.out.1;omega)
    have hsum:zo.size+zl.size<=400009:=by omega
    obtain ⟨z1,hz1⟩: ∃z,zo ++ zl=z:=⟨_,rfl⟩
    have hs3:z1.size+zn.size<=404020:=by rw [<-hz1,adG];omega
    obtain ⟨z2,hz2⟩: ∃z,z1 ++ zn=z:=⟨_,rfl⟩
    have hnx: ∀w7,Below wr.heap.size wr w7->wV k4 (v.nums.map (fun n=>Cy.scalar k4 n []) ++(v.texts.take (j+1)).map (fun t=>Cy.scalar k4 0 t)) z2 ⟨#[44,32]⟩ W3 w7:=fun w7 b7=>by
     rw [map_take hx,<-acF];exact aW.out.next b7 ET hz1 hz2
    have iC:=ah hnx;have HN:=ah hN
    have hcn':wr.cell? ⟨b,off+j,none⟩=some (.string zx):=by rw [<-hzx];exact hcn
    clear hn hx hm hsc hN hzn ET hzs hs1 hs2 hnx hlt hcn hzx hxl BO;go_wp2_with fail
    refine HN.out.mono ?_;rintro e w7 ⟨rfl,b7⟩;have gU:=ah (iC.out w7 b7);clear b7
    go_wp2_with fail
    go_roundg kq
    case measure=>omega
    exact ⟨j+1,z2,⟨#[44,32]⟩,by simp,rfl,rfl,by omega,gU.out⟩
  | succ kq=>
   have hin:i<nn:=by omega
   have G6:(i:Int)<(nn:Int):=by omega
   obtain ⟨b,off,n,rfl,hlt,hn,hcn⟩:=Reads.at_ (jV.out.1.below (((HB4.out.trans (aW.out.bel.mono HB4.out.size)).mono aH.out).drew)) hin
   rw [acJ] at hn;obtain ⟨x,hx,rfl⟩:=ac7.1 hn;have hm:=acf hx
   have h5:4<k0:=by have:=HX.out.1;omega
   have aex:k0≠8:=fun e=>by rw [(HC.out.2.2.2.2.2 h5).1 e] at hx;cases hx
   have hsc:=((HC.out.2.2.2.2.2 h5).2 aex).2 x hm;rw [HX.out.2.1] at hsc
   have hN:=abG k4 x wr.drew amO (by have:=HX.out.2.1;omega) (HV.out.2.2.1 x hm)
   rw [hsc] at hN
   obtain ⟨zn,hzn⟩: ∃z:ByteArray,(⟨(Cy.scalar k4 x []).toArray⟩:ByteArray)=z:=⟨_,rfl⟩
   rw [hzn] at hN;have ET:zn.data.toList=Cy.scalar k4 x []:=by rw [<-hzn]
   have hzs:zn.size<=4002:=by rw [Lib.size_eq,ET];exact IZ (HV.out.2.2.1 x hm) (by simp)
   obtain ⟨hs1,hs2⟩:=aW.out.sizes (fun y hy=>fK.out.2 y (List.map_subset _ (List.take_subset i _) hy)) (by rw [ace,acW];have:=fK.out.1;omega)
   have hsum: ¬9223372036854775807<zo.size+zl.size:=by omega
   obtain ⟨z1,hz1⟩: ∃z,zo ++ zl=z:=⟨_,rfl⟩
   have hs3: ¬9223372036854775807<z1.size+zn.size:=by rw [<-hz1,adG];omega
   obtain ⟨z2,hz2⟩: ∃z,z1 ++ zn=z:=⟨_,rfl⟩
   have hnx: ∀w7,Below wr.drew.heap.size wr.drew w7->wV k4 ((v.nums.take (i+1)).map (fun n=>Cy.scalar k4 n [])) z2 ⟨#[44,32]⟩ W3 w7:=fun w7 b7=>by
    rw [map_take hx]
    exact aW.out.next ((Below.refl wr.heap.size wr).drew.trans b7) ET hz1 hz2
   have iC:=ah hnx;have HN:=ah hN
   have hcn':wr.cell? ⟨b,off+i,none⟩=some (.int .i64 x):=hcn
   clear hn hx hm hsc hN hzn ET hzs hs1 hs2 hnx hlt hcn aex h5;go_wp2_with fail
   go_region_law (first |(refine FP 38 rfl (by go_simp) (aag HN.out) ?_;rintro _ w7 ⟨rfl,b7⟩;have gU:=ah (iC.out w7 b7);clear b7) | fail)
   all_goals
    go_wp2_with fail
    go_roundg kq
    case measure=>omega
    exact ⟨i+1,z2,⟨#[44,32]⟩,by simp,rfl,rfl,by omega,gU.out⟩
 have hR1:=HR.out;rw [ab6 hc] at hR1;subst hR1;have hne:((cv:Int) !=0)=true:=by simp;omega
 go_wp2_with fail
 go_ret2
 exact ⟨rfl,HB2.out⟩
theorem abL (n:Int) (w:World) (h:ak.In64 n):Calls Tryz.prog 61 #[.int .i64 n] w fun e w'=>e= .returned (.string ⟨(Lib.itoa n).toArray⟩)/\Below w.heap.size w w':=by
 have HF:=ah (X7 n w h.1 h.2)
 obtain ⟨z,hz⟩: ∃z:ByteArray,(⟨(Lib.itoa n).toArray⟩:ByteArray)=z:=⟨_,rfl⟩;rw [hz] at HF⊢
 have h1:=h.1;have h2:=h.2;clear h hz;go_enter Tryz.func61,Tryz.ntmps61;go_wp2_with fail
 refine HF.out.mono ?_;rintro e w1 ⟨rfl,hb⟩;have HB:=ah hb;clear hb;go_wp2;go_ret
 exact ⟨rfl,HB.out⟩
def wW (ps:List Gr.P):List UInt8:=if ps= [] then [] else [32,123] ++ Cy.join [44,32] (ps.map Cy.iq)
theorem ajU (ps:List Gr.P) (p:Gr.P):wW (ps ++ [p])=wW ps ++(if ps= [] then [32,123] else [44,32]) ++ Cy.iq p:=by
 unfold wW;rw [ab6 (by simp),ade,alA,TN]
 by_cases h:ps= []
 ·subst h;simp
 rw [ab6 h,ab6 h,ab6 (by simpa using h)];simp
theorem Jh (ps:List Gr.P):Cy.jL ps=if ps= [] then [] else wW ps ++ [125]:=by
 unfold Cy.jL wW;by_cases h:ps= []
 ·rw [ab7 h,ab7 h]
 rw [ab6 h,ab6 h,ab6 h]
theorem TP {ps:List Gr.P} (hl:ps.length<=16) (h: ∀p∈ps,vP p):(wW ps).length<=4700000:=by
 have h1:=Tz hl h;have h2:Gr.bM ps<=41000*16:=ab5 (Ja (fun p hp=>(h p hp).val)) (akV _ hl)
 rw [Jh] at h1
 split at h1
 ·rename_i e;subst e;simp [wW]
 rw [dA] at h1;omega
theorem ajV {p:Gr.P} (h:vP p):(Cy.lit p.val).length<=287020:=by
 have h1:=aa1 h.val h.ok.val.nums h.ok.val.num;have h2:=NH h.val;omega
theorem abM (B:Nat) (A:Option Addr) (c n:Nat) (ps:List Gr.P) (w:World) (h:cZ w B 6 (aQ w B) A ps) (hl:ps.length=n) (hn:n<=16) (hp: ∀p∈ps,vP p) (hB:B<=w.heap.size):
  Calls Tryz.prog 62 #[.slice A n c] w fun e w'=>e= .returned (.string ⟨(Cy.jL ps).toArray⟩)/\Below w.heap.size w w':=by
 obtain ⟨R,hR⟩: ∃z:ByteArray,(⟨(Cy.jL ps).toArray⟩:ByteArray)=z:=⟨_,rfl⟩;rw [hR]
 have HR:=ah hR;have H:=ah h;have HL:=ah hl;have HP:=ah hp;have aH:=ah hB
 have ES:(n:Int)<=16:=by omega
 clear h hl hp hB hR;go_enter Tryz.func62,Tryz.ntmps62;go_wp2_with fail
 go_loopg [3,4] n (fun q s x wr=> ∃(k:Nat) (z:ByteArray),s= .string z/\x= .int .i64 k/\k+q=n/\Hid (z.data.toList=wW (ps.take k))/\Below w.heap.size w wr)
 case atStart=>exact ⟨0,⟨#[]⟩,rfl,rfl,by omega,rfl,Below.refl _ _⟩
 obtain ⟨k,z,rfl,rfl,hk,hz,hb⟩:=hrel;have HZ:Hid (z.data.toList=wW (ps.take k)):=hz
 have HB:=ah hb
 have hzs:z.size<=4700000:=by rw [Lib.size_eq,HZ.out];exact TP (by rw [acW,HL.out];omega) (fun p hp=>HP.out p (ak9 hp))
 clear hz hb;cases gk with
 | zero=>
  obtain rfl:k=n:=by omega
  have hf:ps.take k=ps:=acg (by rw [HL.out];exact ab1 _)
  rw [hf] at HZ
  rcases aed k with h0 | h0
  ·subst h0
   have he:ps= []:=acD HL.out
   have HF:=ah (show R=z by rw [<-HR.out,Jh,ab7 he];apply adW;apply amU.1;rw [HZ.out,he];rfl)
   clear hk hf he hn ES;go_wp2;go_ret;exact ⟨by rw [HF.out];rfl,HB.out⟩
  have he:ps≠ []:=fun e=>by have:=HL.out;rw [e] at this;simp at this;omega
  have HF:=ah (show R=z ++⟨#[125]⟩ by
   rw [<-HR.out,Jh,ab6 he]
   apply adW
   rw [aep]
   apply amU.1
   rw [aey,HZ.out])
  have qQ:(0:Int)<(k:Int):=by omega
  have tk0:decide ((0:Int)<(k:Int))=true:=abW qQ;have hsum:z.size+1<=4700001:=by omega
  clear hk hf he;go_wp2;go_ret;exact ⟨by rw [HF.out];rfl,HB.out⟩
 | succ q=>
  have hkn:k<n:=by omega
  have dD:(k:Int)<n:=by omega
  have pk:(0:Int)<=(k:Int):=by omega
  have tk:((k:Int)).toNat=k:=by omega
  obtain ⟨p,hp⟩: ∃p,ps[k]?=some p:=⟨_,ab2 (by rw [HL.out];exact hkn)⟩
  have hpp:=HP.out p (acf hp);have hBw:=HB.out.mono aH.out
  obtain ⟨b,o,An,cn,At,ct,rfl,hlt,⟨p0,p1,p2,p3,p4,p5⟩,ra,rb⟩:=(H.out.below hBw (aQ.below hBw)).prop hp
  have oV:=ajT B _ p.val wr (xP (cn:=cn) (ct:=ct) hpp.ok.val ra rb) (ab5 aH.out HB.out.size)
  simp only [ST] at p0 p3 oV
  obtain ⟨z1,hz1⟩: ∃z:ByteArray,(⟨p.key.toArray⟩:ByteArray)=z:=⟨_,rfl⟩
  obtain ⟨z2,hz2⟩: ∃z:ByteArray,(⟨p.val.text.toArray⟩:ByteArray)=z:=⟨_,rfl⟩
  obtain ⟨z3,hz3⟩: ∃z:ByteArray,(⟨(Cy.lit p.val).toArray⟩:ByteArray)=z:=⟨_,rfl⟩
  rw [hz1] at p0;rw [hz2] at p3 oV
  rw [show Cy.rV p.val=(Cy.lit p.val,0) by unfold Cy.rV;rw [ab7 hpp.val]] at oV
  simp only [hz3] at oV;have hs1:z1.size<=40:=by rw [<-hz1,bf];exact hpp.key
  have hs3:z3.size<=287020:=by rw [<-hz3,bf];exact ajV hpp
  have lX:=ah oV;have O6:=ah (And.intro hz1 hz3)
  have iD:=ah (show wW (ps.take (k+1))=wW (ps.take k) ++(if ps.take k= [] then [32,123] else [44,32]) ++ Cy.iq p by rw [adZ,hp];exact ajU _ _)
  have kZ:=ah (show ps.take k= []↔k=0 from ⟨fun e=>by have h1:=ab8 List.length e;rw [acW,HL.out] at h1;simp at h1;omega,fun e=>by rw [e];rfl⟩)
  have CG:=ah (fun (X:World) (hb:Below wr.heap.size wr X)=>(hb.cell (p:=⟨b,o+k*6,none⟩) (adf hlt (ab5 aH.out HB.out.size))).trans p0)
  have HK:=ah hk;clear hkn hp hpp hBw hlt ra rb oV hz1 hz2 hz3 hk
  have hcase:(k=0/\decide ((0:Int)<(k:Int))=false/\(k:Int)<=0)\/(k≠0/\decide ((0:Int)<(k:Int))=true/\(0:Int)<k):=by
   by_cases h0:k=0
   ·exact .inl ⟨h0,abX (by omega),by omega⟩
   exact .inr ⟨h0,abW (by omega),by omega⟩
  rcases hcase with ⟨h0,t0,i0⟩ |⟨h0,t0,i0⟩
  all_goals
   have dI:=ah h0;clear h0;go_wp2_with fail;refine lX.out.mono ?_;rintro e w2 ⟨rfl,hb2⟩
   have HB2:=ah (HB.out.trans (hb2.mono HB.out.size));have e0:=CG.out w2 hb2
   clear hb2 p0 p1 p2 p3 p4 p5;have hb1:z.size+2<=4700002:=by omega
   have hb2:z.size+2+z1.size<=4700042:=by omega
   have hb3:z.size+2+z1.size+2<=4700044:=by omega
   have hb4:z.size+2+z1.size+2+z3.size<=5700044:=by omega
   go_wp2_with fail
   go_roundg q
   case measure=>omega
   refine ⟨k+1,_,rfl,int_eq (by omega),by have:=HK.out;omega, ?_,HB2.out⟩
   show _=_
   rw [iD.out];simp only [aep,aey,HZ.out,<-O6.out.1,<-O6.out.2,Cy.iq]
   first
    | rw [ab7 (kZ.out.2 dI.out)]
    | rw [ab6 (fun e=>dI.out (kZ.out.1 e))]
   simp
def fZ (g:Gr.G):List (List UInt8):=if (Gr.check g).1=0 then Cy.lines g else []
def ajW (w:World) (g:Gr.G) (e:Ending) (w':World):Prop:= ∃A c,e= .returned (.tuple #[.slice A (fZ g).length c, .int .i64 ((Gr.check g).1:Nat)])/\w'.ownsRow (w.heap.size+1) 9 1 (.slice A (fZ g).length c) (fZ g).length ((fZ g).map ST)/\Below w.heap.size w w'
theorem ba_eq {a b:ByteArray} (h:a.data.toList=b.data.toList):a=b:=adW (amU.1 h)
theorem TQ (B:Nat) (u:Value) (g:Gr.G) (w:World) (h:fE w B u g) (hB:B<=w.heap.size):
  Calls Tryz.prog 26 #[u] w (ajW w g):=by
 have hok:=h.ok
 have hck:=fun (V:World) (hb:Below w.heap.size w V)=>NR B u g V (h.below (hb.mono hB)) (ab5 hB hb.size)
 obtain ⟨An,cn,Ar,cr,rfl,hN,hR⟩:=h.ex;obtain ⟨nn,hnn⟩: ∃n,g.nodes.length=n:=⟨_,rfl⟩
 obtain ⟨rn,hrn⟩: ∃n,g.au.length=n:=⟨_,rfl⟩;obtain ⟨E,hE⟩: ∃E,(Gr.check g).1=E:=⟨_,rfl⟩
 have hnl:=hok.nl;have hrl:=hok.rl;rw [hnn] at hnl hck⊢;rw [hrn] at hrl hck⊢
 rw [hE] at hck;have HN:=ah hN;have HR:=ah hR;have aK:=ah hok;have ay:=ah hnn
 have gy:=ah hrn;have HE:=ah hE;have aH:=ah hB
 obtain ⟨W0,hW0⟩: ∃x,(w.alloc (.cells #[.slice An nn cn, .slice Ar rn cr] 39)).alloc (.cells #[] 9)=x:=⟨_,rfl⟩
 have gq:=ah (show iR w (.slice An nn cn) (.slice Ar rn cr) [] (some ⟨w.heap.size+1,0,none⟩) 0 0 W0 from hW0▸
  ⟨(aj.new w _ _).alloc _,rfl,by have:=qJ (w.alloc (.cells #[.slice An nn cn, .slice Ar rn cr] 39)) 9 1;simpa using this,((Below.refl _ w).alloc (ab1 _) _).alloc (by simp) _⟩)
 have aU:=ah (hck W0 gq.out.bel);have HW0:=ah hW0;clear h hok hN hR hnn hrn hB hW0 hck hE
 go_enter Tryz.func26,Tryz.ntmps26
 go_upto_region 2 with fail
 rw [HW0.out];clear HW0;obtain ⟨c0,c1⟩:=cells2 gq.out.box;go_wp2_with fail
 refine aU.out.mono ?_;rintro e w1 ⟨rfl,hb1⟩;have dP:=ah (gq.out.below hb1)
 clear hb1 c0 c1 aU gq;obtain ⟨c0,c1⟩:=cells2 dP.out.box;cases E with
 | succ e=>
  have Ac:=ah (show fZ g= [] by unfold fZ;rw [HE.out,ab6 (by omega)])
  have hne:(((e+1:Nat):Int) !=0)=true:=by rw [acV];omega
  go_wp2
  go_ret2
  exact ⟨_,_,by rw [Ac.out,HE.out];rfl,by rw [Ac.out];exact dP.out.own,dP.out.bel⟩
 | zero=>
  have hgood:=Gr.xJ.1 HE.out;have fK:=ah (Good.node hgood aK.out)
  have dG:=ah (Good.rel hgood aK.out);have zT:=ah hgood.nodes.len
  have amP:=ah hgood.au.len;clear hgood;go_wp2_with fail
  go_loopg [4,7] nn (fun q o x wr=> ∃(k:Nat) (A':Option Addr) (c':Nat),o= .slice A' k c'/\x= .int .i64 k/\k+q=nn/\iR w (.slice An nn cn) (.slice Ar rn cr) ((g.nodes.take k).map Cy.bY) A' c' k wr)
  case atStart=>exact ⟨0,_,_,rfl,rfl,by omega,dP.out⟩
  obtain ⟨k,A',c',rfl,rfl,hk,hst⟩:=hrel;have HST:=ah hst;clear hst c0 c1 dP
  obtain ⟨c0,c1⟩:=cells2 HST.out.box;cases gk with
  | succ q=>
   have hkn:k<nn:=by omega
   have dD:(k:Int)<nn:=by omega
   have pk:(0:Int)<=(k:Int):=by omega
   have tk:((k:Int)).toNat=k:=by omega
   obtain ⟨n,hn⟩: ∃n,g.nodes[k]?=some n:=⟨_,ab2 (by rw [ay.out];exact hkn)⟩
   have hBw:=HST.out.bel.mono aH.out
   obtain ⟨b,oo,Al,cl,Ap,cp,rfl,hlt,⟨d0,d1,d2⟩,r1,rp⟩:=(HN.out.below hBw (gZ.below hBw)).node hn
   have hpr:=fK.out n (acf hn);obtain ⟨ln,hln⟩: ∃x,n.labels.length=x:=⟨_,rfl⟩
   obtain ⟨pn,hpn⟩: ∃x,n.props.length=x:=⟨_,rfl⟩;have lu:(ln:Int)<=8:=by have:=hpr.ll;omega
   rw [hln] at d1 r1;rw [hpn] at d2;obtain ⟨nb,hnb⟩: ∃x,wr.heap.size=x:=⟨_,rfl⟩
   obtain ⟨WN,aX⟩: ∃W,wr.alloc (.cells #[.int .i64 n.id, .slice Al ln cl, .slice Ap pn cp] 59)=W:=⟨_,rfl⟩
   have hbN:Below wr.heap.size wr WN:=aX▸(Below.refl _ wr).alloc (ab1 _) _
   have hkN:aj WN nb 59 #[.int .i64 n.id, .slice Al ln cl, .slice Ap pn cp]:=by rw [<-aX,<-hnb];exact aj.new _ _ _
   have hsz:=HST.out.bel.size;have hbB:Below B wr WN:=hbN.mono (ab5 aH.out hsz)
   have bU:=ah (HST.out.below hbN);have jH:=ah hkN;have eG:=ah aX;have oM:=ah hnb
   have lU:=ah (r1.below hbB);have og:=ah (rp.below hbB (aQ.below hbB));have dR:=ah hln
   have iP:=ah hpn;have yQ:=ah (ab5 (ab5 aH.out hsz) hbN.size);have AP:=ah hpr
   have iD:=ah (show (g.nodes.take (k+1)).map Cy.bY=(g.nodes.take k).map Cy.bY ++ [Cy.bY n] by rw [adZ,hn];simp)
   obtain ⟨L,hL⟩: ∃l,(g.nodes.take k).map Cy.bY=l:=⟨_,rfl⟩;rw [hL] at bU iD;clear hL
   have hnum:=abL n.id WN hpr.ok.id
   obtain ⟨zi,hzi⟩: ∃z:ByteArray,(⟨(Lib.itoa n.id).toArray⟩:ByteArray)=z:=⟨_,rfl⟩
   rw [hzi] at hnum;have hzs:zi.size<=21:=by rw [<-hzi,bf];exact oC hpr.ok.id.1 hpr.ok.id.2
   have HNU:=ah hnum;have V8:=ah hzi;have HK:=ah hk
   clear hkn hn hBw hlt hpr hln hpn hnb aX hbN hkN hsz hbB r1 rp hk hnum hzi
   go_upto_region 9 with fail
   rw [eG.out,oM.out];clear eG oM c0 c1 d0 d1 d2 HST;obtain ⟨d0,d1,d2⟩:=cells3 jH.out
   go_wp2_with fail;refine HNU.out.mono ?_;rintro e w2 ⟨rfl,hb2⟩
   have HS2:=ah (bU.out.below hb2);have aC:=ah (jH.out.below hb2 jH.out.lt)
   have HB2:=ah hb2;clear hb2 d0 d1 d2 HNU;obtain ⟨d0,d1,d2⟩:=cells3 aC.out
   have aF:9+zi.size<=30:=by omega
   obtain ⟨z0,hz0⟩: ∃z,(⟨#[67,82,69,65,84,69,32,40,110]⟩:ByteArray) ++ zi=z:=⟨_,rfl⟩
   have HZ0:=ah (show z0.data.toList=Cy.jM ++ [32,40,110] ++ Lib.itoa n.id by rw [<-hz0,aep,aey,<-V8.out];rfl)
   go_wp2_with fail
   go_loopg [9,10] ln (fun q s x wq=> ∃(j:Nat) (z:ByteArray),s= .string z/\x= .int .i64 j/\j+q=ln/\Hid (z.data.toList=Cy.jM ++ [32,40,110] ++ Lib.itoa n.id ++(n.labels.take j).flatMap (fun l=>58 :: l))/\w2=wq)
   case atStart=>exact ⟨0,z0,rfl,rfl,by omega,by rw [akd,amo,acK];exact HZ0.out,rfl⟩
   obtain ⟨j,z,rfl,rfl,hj,hz,rfl⟩:=hrel
   have HZ:Hid (z.data.toList=Cy.jM ++ [32,40,110] ++ Lib.itoa n.id ++(n.labels.take j).flatMap (fun l=>58 :: l)):=hz
   have HJ:=ah hj;clear hz
   have hlab:((n.labels.take j).flatMap fun l=>58 :: l).length<=41*8:=by
    have h1: ∀l:List (List UInt8),(∀x∈l,x.length<=40)->(l.flatMap fun l=>(58:UInt8) :: l).length<=41*l.length:=by
     intro l
     induction l with
     | nil=>simp
     | cons a r ih=>
      intro h;have:=ih fun x hx=>h x (ada _ hx)
      have:=h a (by simp)
      simp only [adz,dA,acd];omega
    have h2:=h1 (n.labels.take j) (fun x hx=>AP.out.ls x (ak9 hx))
    have h3:(n.labels.take j).length<=8:=by rw [acW];have:=AP.out.ll;omega
    omega
   have aoy:z.size<=400:=by
    rw [Lib.size_eq,HZ.out]
    have h4:(Lib.itoa n.id).length<=21:=oC AP.out.ok.id.1 AP.out.ok.id.2
    simp only [dA,Cy.jM,acd,adk];omega
   clear hlab;cases gk with
   | succ q2=>
    have hkn:j<ln:=by omega
    have lT:(j:Int)<ln:=by omega
    have pj:(0:Int)<=(j:Int):=by omega
    have tj:((j:Int)).toNat=j:=by omega
    obtain ⟨p,o,x,rfl,-,hx,hp⟩:=(lU.out.below (HB2.out.mono yQ.out)).cell hkn
    rw [acJ] at hx;obtain ⟨y,hy,rfl⟩:=ac7.1 hx;unfold ST at hp
    obtain ⟨zy,hzy⟩: ∃z:ByteArray,(⟨y.toArray⟩:ByteArray)=z:=⟨_,rfl⟩;rw [hzy] at hp
    have hyl:zy.size<=40:=by rw [<-hzy,bf];exact AP.out.ls y (acf hy)
    have HNZ:=ah (show (z ++⟨#[58]⟩ ++ zy).data.toList=Cy.jM ++ [32,40,110] ++ Lib.itoa n.id ++(n.labels.take (j+1)).flatMap (fun l=>58 :: l) by
     rw [adZ,hy,aep,aep,aey,aey,HZ.out,<-hzy]
     simp)
    have hs1:z.size+1<=401:=by omega
    have hs2:z.size+1+zy.size<=441:=by omega
    clear hkn hx hy hzy hyl hj;go_wp2_with fail
    go_roundg q2
    case measure=>omega
    exact ⟨j+1,_,rfl,int_eq (by omega),by have:=HJ.out;omega,HNZ.out,rfl⟩
   | zero=>
    obtain rfl:ln=j:=by omega
    have hfin:n.labels.take ln=n.labels:=acg (by rw [dR.out];exact ab1 _)
    rw [hfin] at HZ
    have hpt:=abM B Ap cp pn n.props w2 (og.out.below (HB2.out.mono yQ.out) (aQ.below (HB2.out.mono yQ.out))) iP.out (by rw [<-iP.out];exact AP.out.pl) AP.out.ps (ab5 yQ.out HB2.out.size)
    obtain ⟨zm,hzm⟩: ∃z:ByteArray,(⟨(Cy.jL n.props).toArray⟩:ByteArray)=z:=⟨_,rfl⟩
    rw [hzm] at hpt
    have hms:zm.size<=4700001:=by
     rw [<-hzm,bf,Jh];have:=TP AP.out.pl AP.out.ps
     split
     ·simp
     rw [dA];simp;omega
    have uQ:=ah hpt
    have Xg:=ah (show ST (Cy.bY n)= .string (z ++ zm ++⟨#[41,59,10]⟩) by
     unfold ST
     congr 1
     apply ba_eq
     rw [aep,aep,aey,aey,HZ.out,<-hzm];unfold Cy.bY
     simp)
    have hs1:z.size+zm.size<=4700401:=by omega
    have hs2:z.size+zm.size+3<=4700404:=by omega
    clear hj hfin hpt hzm hms;go_wp2_with fail;refine uQ.out.mono ?_;rintro e w3 ⟨rfl,hb3⟩
    have bK:=ah (HS2.out.below hb3);have amR:k<1073741824:=by omega
    clear hb3 d0 d1 d2
    go_wp2_with (at_builtin;refine rP rfl (.tmp 54) (.tmp 61) 23 9 (.string ⟨#[]⟩) 16 Tryz.underlying23 xR rfl (by decide) rfl (w.heap.size+1) (.slice A' k c') k (L.map ST) w3 rfl bK.out.own _ rfl rfl amR (amd bK.out.box.lt) ?_)
    intro v9 w9 bI bG jo aF;obtain ⟨A9,c9,rfl⟩:=aJ bI
    have HF:=ah (show iR w (.slice (some ⟨b,oo,none⟩) nn cn) (.slice Ar rn cr) ((g.nodes.take (k+1)).map Cy.bY) A9 c9 (k+1) w9 by
     rw [iD.out]
     exact bK.out.put (x:= [Cy.bY n]) rfl (by rw [alA,Xg.out];exact bI) bG)
    clear bI bG jo aF;go_wp2
    go_roundg q
    case measure=>omega
    exact ⟨k+1,A9,c9,rfl,int_eq (by omega),by have:=HK.out;omega,HF.out⟩
  | zero=>
   obtain rfl:nn=k:=by omega
   have hf:g.nodes.take nn=g.nodes:=acg (by rw [ay.out];exact ab1 _)
   obtain ⟨LN,Xh⟩: ∃l,g.nodes.map Cy.bY=l:=⟨_,rfl⟩;rw [hf,Xh] at HST;have dF:=ah Xh
   have hn1:nn<=1024:=by rw [<-ay.out];exact zT.out
   clear hk hf Xh;go_wp2_with fail
   go_loopg [4,11] rn (fun q o x wr=> ∃(k:Nat) (A':Option Addr) (c':Nat),o= .slice A' (nn+k) c'/\x= .int .i64 k/\k+q=rn/\iR w (.slice An nn cn) (.slice Ar rn cr) (LN ++(g.au.take k).map Cy.bD) A' c' (nn+k) wr)
   case atStart=>exact ⟨0,A',c',rfl,rfl,by omega,by simpa using HST.out⟩
   obtain ⟨k,A',c',rfl,rfl,hk,hst⟩:=hrel;have iH:=ah hst;clear hst c0 c1 HST
   obtain ⟨c0,c1⟩:=cells2 iH.out.box;have hr1:rn<=2048:=by rw [<-gy.out];exact amP.out
   cases gk with
   | zero=>
    obtain rfl:rn=k:=by omega
    have hf:g.au.take rn=g.au:=acg (by rw [gy.out];exact ab1 _)
    have dR:=ah (show fZ g=LN ++(g.au.take rn).map Cy.bD by unfold fZ Cy.lines;rw [ab7 HE.out,dF.out,hf])
    have iE:=ah (show (fZ g).length=nn+rn by rw [dR.out];exact iH.out.len)
    clear hk hf;go_wp2
    go_ret2
    exact ⟨A',c',by rw [iE.out,HE.out];rfl,by rw [iE.out,dR.out];exact iH.out.own,iH.out.bel⟩
   | succ q=>
    have hkn:k<rn:=by omega
    have dD:(k:Int)<rn:=by omega
    have pk:(0:Int)<=(k:Int):=by omega
    have tk:((k:Int)).toNat=k:=by omega
    obtain ⟨n,hn⟩: ∃n,g.au[k]?=some n:=⟨_,ab2 (by rw [gy.out];exact hkn)⟩
    have hBw:=iH.out.bel.mono aH.out
    obtain ⟨b,oo,Ap,cp,rfl,hlt,⟨d0,d1,d2,d3,d4⟩,rp⟩:=(HR.out.below hBw (ig.below hBw)).rel hn
    have hpr:=dG.out n (acf hn);simp only [ST] at d1
    obtain ⟨zt,aO⟩: ∃z:ByteArray,(⟨n.type.toArray⟩:ByteArray)=z:=⟨_,rfl⟩
    obtain ⟨pn,hpn⟩: ∃x,n.props.length=x:=⟨_,rfl⟩
    obtain ⟨zf,uT⟩: ∃f:Int->ByteArray,(fun x=>(⟨(Lib.itoa x).toArray⟩:ByteArray))=f:=⟨_,rfl⟩
    have hzx: ∀x,(⟨(Lib.itoa x).toArray⟩:ByteArray)=zf x:=fun x=>congrFun uT x
    have hzs:=hzx n.src;have hzi:=hzx n.id;have hzd:=hzx n.dst
    obtain ⟨zm,hzm⟩: ∃z:ByteArray,(⟨(Cy.jL n.props).toArray⟩:ByteArray)=z:=⟨_,rfl⟩
    rw [aO] at d1;rw [hpn] at d4;obtain ⟨rb,hrb⟩: ∃x,wr.heap.size=x:=⟨_,rfl⟩
    obtain ⟨WR,AA⟩: ∃W,wr.alloc (.cells #[.int .i64 n.id, .string zt, .int .i64 n.src, .int .i64 n.dst, .slice Ap pn cp] 63)=W:=⟨_,rfl⟩
    have hbN:Below wr.heap.size wr WR:=AA▸(Below.refl _ wr).alloc (ab1 _) _
    have hkN:aj WR rb 63 #[.int .i64 n.id, .string zt, .int .i64 n.src, .int .i64 n.dst, .slice Ap pn cp]:=by rw [<-AA,<-hrb];exact aj.new _ _ _
    have hsz:=iH.out.bel.size;have hbB:Below B wr WR:=hbN.mono (ab5 aH.out hsz)
    obtain ⟨L,hL⟩: ∃l,LN ++(g.au.take k).map Cy.bD=l:=⟨_,rfl⟩;have hsr:=iH.out
    rw [hL] at hsr
    have HOW:=ah (fun (V:World) (hb:Below WR.heap.size WR V)=>(hsr.below hbN).below hb)
    have HKK:=ah (fun (V:World) (hb:Below WR.heap.size WR V)=>cells5 (hkN.below hb hkN.lt))
    have HKB:=ah (fun (V:World) (hb:Below WR.heap.size WR V)=>hkN.below hb hkN.lt)
    have iD:=ah (show LN ++(g.au.take (k+1)).map Cy.bD=L ++ [Cy.bD n] by rw [adZ,hn,<-hL];simp)
    have HNS:=ah (fun (x:Int) (V:World) (hx:x=n.src\/x=n.id\/x=n.dst)=>by
     have:=abL x V (by rcases hx with rfl | rfl | rfl;exact hpr.ok.src;exact hpr.ok.id;exact hpr.ok.dst)
     rw [hzx x] at this
     exact this)
    have uQ:=ah (fun (V:World) (hb:Below WR.heap.size WR V)=>by
     have:=abM B Ap cp pn n.props V ((rp.below hbB (aQ.below hbB)).below (hb.mono (ab5 (ab5 aH.out hsz) hbN.size)) (aQ.below (hb.mono (ab5 (ab5 aH.out hsz) hbN.size)))) hpn (by rw [<-hpn];exact hpr.pl) hpr.ps (ab5 (ab5 (ab5 aH.out hsz) hbN.size) hb.size)
     rw [hzm] at this
     exact this)
    have hq1:(zf n.src).size<=21:=by rw [<-hzs,bf];exact oC hpr.ok.src.1 hpr.ok.src.2
    have hq2:(zf n.id).size<=21:=by rw [<-hzi,bf];exact oC hpr.ok.id.1 hpr.ok.id.2
    have hq3:(zf n.dst).size<=21:=by rw [<-hzd,bf];exact oC hpr.ok.dst.1 hpr.ok.dst.2
    have hq4:zt.size<=40:=by rw [<-aO,bf];exact hpr.tl
    have hq5:zm.size<=4700001:=by
     rw [<-hzm,bf,Jh];have:=TP hpr.pl hpr.ps
     split
     ·simp
     rw [dA];simp;omega
    have Xg:=ah (fun (z:ByteArray) (hz:z.data.toList=Cy.jM ++ [32,40,110] ++(zf n.src).data.toList ++ [41,45,91,114] ++(zf n.id).data.toList ++ [58] ++ zt.data.toList ++ zm.data.toList ++ [93,45,62,40,110] ++(zf n.dst).data.toList ++ [41,59,10])=>show ST (Cy.bD n)= .string z by
     unfold ST
     congr 1
     apply ba_eq
     rw [hz,<-hzs,<-hzi,<-hzd,<-aO,<-hzm]
     rfl)
    have t1:(9223372036854775807<9+(zf n.src).size)=False:=ala (by omega)
    have t2:(9223372036854775807<9+(zf n.src).size+4)=False:=ala (by omega)
    have t3:(9223372036854775807<9+(zf n.src).size+4+(zf n.id).size)=False:=ala (by omega)
    have t4:(9223372036854775807<9+(zf n.src).size+4+(zf n.id).size+1)=False:=ala (by omega)
    have t5:(9223372036854775807<9+(zf n.src).size+4+(zf n.id).size+1+zt.size)=False:=ala (by omega)
    have t6:(9223372036854775807<9+(zf n.src).size+4+(zf n.id).size+1+zt.size+zm.size)=False:=ala (by omega)
    have t7:(9223372036854775807<9+(zf n.src).size+4+(zf n.id).size+1+zt.size+zm.size+5)=False:=ala (by omega)
    have t8:(9223372036854775807<9+(zf n.src).size+4+(zf n.id).size+1+zt.size+zm.size+5+(zf n.dst).size)=False:=ala (by omega)
    have t9:(9223372036854775807<9+(zf n.src).size+4+(zf n.id).size+1+zt.size+zm.size+5+(zf n.dst).size+3)=False:=ala (by omega)
    have CX:=ah AA;have Df:=ah hrb;have HK:=ah hk;have hkm:nn+k<1073741824:=by omega
    have dL:=ah (show w.heap.size+1<=WR.heap.size from ab5 (amd hsr.box.lt) hbN.size)
    clear hkn hn hBw hlt hpr hpn hrb AA hbN hkN hsz hbB rp hk hL hsr aO hzs hzi hzd hzx uT hzm hq1 hq2 hq3 hq4 hq5
    go_upto_region 19 with fail
    rw [CX.out,Df.out];clear CX Df c0 c1 d0 d1 d2 d3 d4 iH
    obtain ⟨d0,d1,d2,d3,d4⟩:=HKK.out WR (Below.refl _ WR)
    have hq:Below WR.heap.size WR WR.drew:=(Below.refl _ WR).drew
    go_region_held3 (fun w'=>w'.cell? ⟨rb,0,none⟩=some (.int .i64 n.id)/\w'.cell? ⟨rb,1,none⟩=some (.string zt)/\w'.cell? ⟨rb,2,none⟩=some (.int .i64 n.src)/\w'.cell? ⟨rb,3,none⟩=some (.int .i64 n.dst)/\w'.cell? ⟨rb,4,none⟩=some (.slice Ap pn cp)) (first | go_keep | exact HKK.out _ hq | exact cells5 hkq | fail)
     ((first |(go_at_call 61;refine (HNS.out _ _ (by simp)).mono ?_;rintro e w7 ⟨rfl,hb7⟩;have hq:=hq.trans (hb7.mono hq.size);clear hb7) |(go_at_call 62;refine (uQ.out _ hq).mono ?_;rintro e w7 ⟨rfl,hb7⟩;have hq:=hq.trans (hb7.mono hq.size);clear hb7) |(refine MN rfl (.tmp 75) (.tmp 99) 23 9 (.string ⟨#[]⟩) 16 Tryz.underlying23 xR rfl (by decide) rfl (w.heap.size+1) (.slice A' (nn+k) c') (nn+k) (L.map ST) _ rfl (HOW.out _ hq).own _ rfl rfl hkm (ab5 dL.out hq.size) ?_;intro v9 w9 bI bG jo aF;have hkq:=(HKB.out _ hq).grown bG (fun e=>AY (HOW.out _ hq).own (HKB.out _ hq) (by decide) e.symm)) | fail))
    have tu:=aJ bI;obtain ⟨A9,c9,rfl⟩:=tu
    have HF:=ah (show iR w (.slice An nn cn) (.slice (some ⟨b,oo,none⟩) rn cr) (LN ++(g.au.take (k+1)).map Cy.bD) A9 c9 (nn+k+1) w9 by
     rw [iD.out]
     exact (HOW.out _ hq).put (x:= [Cy.bD n]) rfl (by
      rw [alA,Xg.out _ ?hz]
      ·exact bI
      simp only [aep,aey,Cy.jM]
      simp) bG)
    clear bI bG jo aF hq hkq t1 t2 t3 t4 t5 t6 t7 t8 t9;go_wp2
    go_roundg q
    case measure=>omega
    exact ⟨k+1,A9,c9,rfl,int_eq (by omega),by have:=HK.out;omega,HF.out⟩
end Go.Proofs.YtoofbflplhbpbaaGreatDoor
