/- Contracts and plain laws,part 37. -/
import Derived.Test.YtkdakckjafomhaaGreatDoorUW36
set_option maxHeartbeats 64000000
set_option maxRecDepth 1000000
set_option linter.all false
namespace Go.Proofs.YtkdakckjafomhaaGreatDoor
open Go.RowKit
theorem J9 (w:World) (B T sz n:Nat) (xs:List Value) (hn:xs.length=n*sz) (hB:B<=w.heap.size) (hm:n<=maxLen):(w.alloc (.cells xs.toArray T)).ownsRow B T sz (.slice (some ⟨w.heap.size,0,none⟩) n n) n xs:=
 ⟨hn,.inr ⟨w.heap.size,n,xs.toArray,rfl,hB,au.new _ _ _,ac4 _,hm,by simp[hn],by simp[<-hn]⟩⟩
theorem aly (w:World): ∃V,((((((w.alloc (.cells #[.string ⟨#[65]⟩] 9)).alloc (.cells #[.string ⟨#[107]⟩,.int .i64 2,.int .i64 1,.string ⟨#[]⟩,.slice none 0 0,.slice none 0 0] 39)).alloc (.cells #[.string ⟨#[65]⟩,.string ⟨#[66]⟩] 9)).alloc
  (.cells #[.int .i64 0,.slice (some ⟨w.heap.size,0,none⟩) 1 1,.slice (some ⟨w.heap.size+1,0,none⟩) 1 1,.int .i64 2,.slice (some ⟨w.heap.size+1+1,0,none⟩) 2 2,.slice none 0 0] 42)).alloc (.cells #[.int .i64 5,.string ⟨#[84]⟩,.int .i64 2,.int .i64 0,.slice none 0 0] 44)).alloc
  (.cells #[.slice (some ⟨w.heap.size+1+1+1,0,none⟩) 2 2,.slice (some ⟨w.heap.size+1+1+1+1,0,none⟩) 1 1] 26))=V/\Below w.heap.size w V/\
  dR V w.heap.size (.agg #[.slice (some ⟨w.heap.size+1+1+1,0,none⟩) 2 2,.slice (some ⟨w.heap.size+1+1+1+1,0,none⟩) 1 1]) wG/\
  au V (w.heap.size+1+1+1+1+1) 26 #[.slice (some ⟨w.heap.size+1+1+1,0,none⟩) 2 2,.slice (some ⟨w.heap.size+1+1+1+1,0,none⟩) 1 1]:=by
 obtain⟨b,hb⟩:=aj w.heap.size
 have o1:=J9 w b 9 1 1 [.string ⟨#[65]⟩] rfl (by omega) (by decide)
 obtain⟨V1,h1⟩:=aj (w.alloc (.cells #[.string ⟨#[65]⟩] 9))
 have z1:V1.heap.size=b+1:=by rw[<-h1];simp[hb]
 rw[h1]at o1
 have o2:=J9 V1 b 39 6 1 [.string ⟨#[107]⟩,.int .i64 2,.int .i64 1,.string ⟨#[]⟩,.slice none 0 0,.slice none 0 0] rfl (by omega) (by decide)
 obtain⟨V2,h2⟩:=aj (V1.alloc (.cells #[.string ⟨#[107]⟩,.int .i64 2,.int .i64 1,.string ⟨#[]⟩,.slice none 0 0,.slice none 0 0] 39))
 have z2:V2.heap.size=b+1+1:=by rw[<-h2];simp[z1]
 have o1:=World.ownsRow.alloc o1 (.cells #[.string ⟨#[107]⟩,.int .i64 2,.int .i64 1,.string ⟨#[]⟩,.slice none 0 0,.slice none 0 0] 39)
 rw[h2]at o1 o2
 have o3:=J9 V2 b 9 1 2 [.string ⟨#[65]⟩,.string ⟨#[66]⟩] rfl (by omega) (by decide)
 obtain⟨V3,h3⟩:=aj (V2.alloc (.cells #[.string ⟨#[65]⟩,.string ⟨#[66]⟩] 9))
 have z3:V3.heap.size=b+1+1+1:=by rw[<-h3];simp[z2]
 have o1:=World.ownsRow.alloc o1 (.cells #[.string ⟨#[65]⟩,.string ⟨#[66]⟩] 9)
 have o2:=World.ownsRow.alloc o2 (.cells #[.string ⟨#[65]⟩,.string ⟨#[66]⟩] 9)
 rw[h3]at o1 o2 o3;rw[hb]at o1⊢;rw[z1]at o2;rw[z2]at o3
 have o4:=J9 V3 b 42 3 2 [.int .i64 0,.slice (some ⟨b,0,none⟩) 1 1,.slice (some ⟨b+1,0,none⟩) 1 1,.int .i64 2,.slice (some ⟨b+1+1,0,none⟩) 2 2,.slice none 0 0] rfl (by omega) (by decide)
 obtain⟨V4,h4⟩:=aj (V3.alloc (.cells #[.int .i64 0,.slice (some ⟨b,0,none⟩) 1 1,.slice (some ⟨b+1,0,none⟩) 1 1,.int .i64 2,.slice (some ⟨b+1+1,0,none⟩) 2 2,.slice none 0 0] 42))
 have z4:V4.heap.size=b+1+1+1+1:=by rw[<-h4];simp[z3]
 have a1:=World.ownsRow.alloc o1 (.cells #[.int .i64 0,.slice (some ⟨b,0,none⟩) 1 1,.slice (some ⟨b+1,0,none⟩) 1 1,.int .i64 2,.slice (some ⟨b+1+1,0,none⟩) 2 2,.slice none 0 0] 42)
 have a2:=World.ownsRow.alloc o2 (.cells #[.int .i64 0,.slice (some ⟨b,0,none⟩) 1 1,.slice (some ⟨b+1,0,none⟩) 1 1,.int .i64 2,.slice (some ⟨b+1+1,0,none⟩) 2 2,.slice none 0 0] 42)
 have a3:=World.ownsRow.alloc o3 (.cells #[.int .i64 0,.slice (some ⟨b,0,none⟩) 1 1,.slice (some ⟨b+1,0,none⟩) 1 1,.int .i64 2,.slice (some ⟨b+1+1,0,none⟩) 2 2,.slice none 0 0] 42)
 rw[h4]at a1 a2 a3 o4;rw[z3]at o4
 have o5:=J9 V4 b 44 5 1 [.int .i64 5,.string ⟨#[84]⟩,.int .i64 2,.int .i64 0,.slice none 0 0] rfl (by omega) (by decide)
 have e4:dR (V4.alloc (.cells #[.int .i64 5,.string ⟨#[84]⟩,.int .i64 2,.int .i64 0,.slice none 0 0] 44)) b (.agg #[.slice (some ⟨b+1+1+1,0,none⟩) 2 2,.slice (some ⟨b+1+1+1+1,0,none⟩) 1 1]) wG:=by
  rw[z4]at o5
  have q: ∀{B T sz n:Nat} {v:Value} {xs:List Value},V4.ownsRow B T sz v n xs->(V4.alloc (.cells #[.int .i64 5,.string ⟨#[84]⟩,.int .i64 2,.int .i64 0,.slice none 0 0] 44)).ownsRow B T sz v n xs:=fun h=>World.ownsRow.alloc h _
  refine⟨_,_,[(⟨0,[[65]],[⟨[107],⟨2,1,[],[],[]⟩⟩]⟩,[.int .i64 0,.slice (some ⟨b,0,none⟩) 1 1,.slice (some ⟨b+1,0,none⟩) 1 1]),(⟨2,[[65],[66]],[]⟩,[.int .i64 2,.slice (some ⟨b+1+1,0,none⟩) 2 2,.slice none 0 0])],
   [(⟨5,[84],2,0,[]⟩,[.int .i64 5,.string ⟨#[84]⟩,.int .i64 2,.int .i64 0,.slice none 0 0])],rfl,rfl,fun x hx=> ?_,q o4,rfl,fun x hx=> ?_,o5⟩
  ·rcases aeY.1 hx with rfl|hx
   ·exact⟨_,_,rfl,q a1,[(⟨[107],⟨2,1,[],[],[]⟩⟩,[.string ⟨#[107]⟩,.int .i64 2,.int .i64 1,.string ⟨#[]⟩,.slice none 0 0,.slice none 0 0])],rfl,fun y hy=>by
     rw[ael.1 hy]
     exact⟨_,_,rfl,World.ownsRow_nil _ _ _ _,World.ownsRow_nil _ _ _ _⟩,q a2⟩
   rw[ael.1 hx];exact⟨_,_,rfl,q a3,cu.nil _ _ _⟩
  rw[ael.1 hx];exact⟨_,rfl,cu.nil _ _ _⟩
 obtain⟨V5,h5⟩:=aj (V4.alloc (.cells #[.int .i64 5,.string ⟨#[84]⟩,.int .i64 2,.int .i64 0,.slice none 0 0] 44))
 have z5:V5.heap.size=b+1+1+1+1+1:=by rw[<-h5];simp[z4]
 rw[h5]at e4
 have hbw:Below b w V5:=by
  rw[<-h5,<-h4,<-h3,<-h2,<-h1]
  exact((((((Below.refl b w).alloc (by omega) _).alloc (by simp;omega) _).alloc (by simp;omega) _).alloc (by simp;omega) _).alloc (by simp;omega) _)
 rw[h1,h2,h3,h4,h5];refine⟨_,rfl,hbw.alloc (by omega) _, ?_, ?_⟩
 ·exact e4.below ((Below.refl _ _).alloc (ac4 _) _)
 rw[<-z5];exact au.new _ _ _
theorem alz (w:World) (hL: ∀V,Below w.heap.size w V->Laid V):Calls Tryz.prog 4 #[] w fun e w'=>e=.returned (.bool true)/\Below w.heap.size w w':=by
 obtain⟨W1,hW1,hb1,hg1,hk1⟩:=aly w;have hok:DT wG:=(Tb.aa7 acg).1.ok;have hgi:=hg1.yC hok
 have hpr:=alx hg1 hok (hL _ hb1);obtain⟨za,hza⟩:=aj (⟨Jm.toArray⟩:ByteArray)
 obtain⟨zb,hzb⟩:=aj (⟨GK.toArray⟩:ByteArray);rw[ak1,hza,hzb]at hpr
 have ta:za.toList=Jm:=by rw[<-hza];exact rZ _
 have tb:zb.toList=GK:=by rw[<-hzb];exact rZ _
 have XQ:za.data.toList=Jm:=by rw[<-hza]
 have NJ:zb.data.toList=GK:=by rw[<-hzb]
 have hps:=fun(V:World) (hb:Below w.heap.size w V)=>U5 za zb (by rw[Lib.size_eq,XQ];decide) (by rw[Lib.size_eq,NJ];decide) V (fun X hX=>hL X (hb.trans (hX.mono hb.size)))
 have hp0:=fun(V:World) (hb:Below w.heap.size w V)=>U5 ⟨#[]⟩ zb (by decide) (by rw[Lib.size_eq,NJ];decide) V (fun X hX=>hL X (hb.trans (hX.mono hb.size)))
 rw[XQ,NJ,acg]at hps;rw[NJ,show(⟨#[]⟩:ByteArray).data.toList=[] from rfl,ak3]at hp0
 obtain⟨gb,hgb⟩:=aj (w.heap.size+1+1+1+1+1);rw[hgb]at hk1;have cZ:=ah hpr
 have HPS:=ah hps;have HP0:=ah hp0;have HGI:=ah hgi;have bW:=ah hk1;have HB1:=ah hb1
 have HW1:=ah hW1;have Ez:=ah hgb;have aV:=ah hok
 clear hW1 hb1 hg1 hk1 hok hgi hpr hps hp0 hza hzb XQ NJ hL hgb
 go_enter Tryz.func4,Tryz.ntmps4
 go_upto_region 2 with fail
 rw[HW1.out,Ez.out];clear HW1 Ez;obtain⟨c0,c1⟩:=cells2 bW.out;go_wp2_with fail
 refine cZ.mono ?_;rintro e w2 ⟨rfl,b2⟩;have HB2:=ah (HB1.trans (b2.mono HB1.size))
 have aY:=ah (bW.below b2 bW.lt);have HG2:=ah (HGI.below b2);have HZ2:=ah b2.size
 clear b2 c0 c1 cZ HGI bW;go_wp2_with fail;refine(HPS.out w2 HB2.out).mono ?_
 rintro e w3 ⟨u3,rfl,g3,b3⟩;have Cj:=g3.yC aV.out
 obtain⟨A3,c3,A4,c4,rfl⟩:=Cj.form (a:=2) (b:=1) rfl rfl
 obtain⟨W4,jG⟩:=aj (w3.alloc (.cells #[.slice A3 2 c3,.slice A4 1 c4] 26))
 obtain⟨gc,hgc⟩:=aj w3.heap.size
 have hb4:Below w3.heap.size w3 W4:=jG▸(Below.refl _ w3).alloc (ac4 _) _
 have RI:Below w2.heap.size w2 W4:=b3.trans (hb4.mono b3.size)
 have eY:=ah (show au W4 gc 26 #[.slice A3 2 c3,.slice A4 1 c4] by rw[<-jG,<-hgc];exact au.new _ _ _)
 have HB4:=ah (HB2.trans (RI.mono HB2.size));have XR:=ah (aY.below RI aY.lt)
 have HGA:=ah (((HG2.below (RI.mono HZ2.out)).more (adg HZ2.out (adg b3.size (anh hgc)))))
 have HGH:=ah (show jQ W4 gc (.agg #[.slice A3 2 c3,.slice A4 1 c4]) wG from hgc▸Cj.below hb4)
 have RJ:=ah (show gc<=W4.heap.size from hgc▸hb4.size)
 have ou:=ah jG;have NK:=ah hgc;clear Cj jG hgc hb4 RI g3 b3 HPS HG2 aY HZ2
 go_upto_region 6 with fail
 rw[ou.out,NK.out];clear ou NK;go_wp2_with fail;refine(HP0.out W4 HB4.out).mono ?_
 rintro e w5 ⟨u5,rfl,g5,b5⟩
 obtain⟨A5,c5,A6,c6,rfl⟩: ∃A c B d,u5=.agg #[.slice A 0 c,.slice B 0 d]:=by
  obtain⟨sn,sr,ln,lr,rfl,-,-,h3,-,-,h6⟩:=g5;obtain⟨A,c,rfl⟩:=aF h3
  obtain⟨B,d,rfl⟩:=aF h6;exact⟨A,c,B,d,rfl⟩
 obtain⟨W6,iY⟩:=aj (w5.alloc (.cells #[.slice A5 0 c5,.slice A6 0 c6] 26))
 have h46:Below W4.heap.size W4 W6:=b5.trans ((iY▸(Below.refl _ w5).alloc (ac4 _) _:Below w5.heap.size w5 W6).mono b5.size)
 have dO:=ah (HB4.trans (h46.mono HB4.size));have hka:=XR.below h46 XR.lt
 have hk4:=eY.below h46 eY.lt
 have jE:=ah (aci gc _ _ wG W6 (HGA.below (h46.mono RJ.out)) (HGH.below (h46.mono RJ.out)) (adg RJ.out h46.size))
 have pI:=ah iY;clear iY h46 g5 b5 HP0 HGA HGH RJ XR eY
 go_upto_region 7 with fail
 rw[pI.out];clear pI;obtain⟨c0,c1⟩:=cells2 hka;obtain⟨d0,d1⟩:=cells2 hk4
 go_wp2_with fail;refine jE.mono ?_;rintro e w7 ⟨rfl,b7⟩
 have bD:=ah (dO.trans (b7.mono dO.size));clear b7;go_wp2;go_ret;exact⟨rfl,bD.out⟩
structure Tb.sF (s:List UInt8) (acc:List (List UInt8)) (a i:Nat):Prop where
 run:i<=s.length->a<=i/\Tb.dA s=acc++Tb.dA (s.drop a)/\Tb.kT [] (Tb.dA s)=Tb.kT acc (Tb.dA (s.drop a))/\ ∀x∈(s.drop a).take (i - a),x≠59
 fin:s.length<i->Tb.dA s=acc/\Tb.kT [] (Tb.dA s)=0
theorem Tb.sF.start (s:List UInt8):Tb.sF s [] 0 0:=⟨fun _=>⟨ac4 _,by rw[afA];rfl,by rw[afA],fun x h=>by simp at h⟩,fun h=>absurd h (by omega)⟩
theorem Tb.sF.go {s:List UInt8} {acc:List (List UInt8)} {a i:Nat} {c:UInt8} (h:Tb.sF s acc a i) (hc:s[i]?=some c) (hn:c≠59):Tb.sF s acc a (i+1):=by
 obtain⟨hi,-⟩:=adw.1 hc;obtain⟨h1,h2,h3,h4⟩:=h.run (by omega)
 refine⟨fun _=>⟨by omega,h2,h3,fun x hx=> ?_⟩,fun h=>absurd h (by omega)⟩
 rw[show i+1 - a=(i - a)+1 by omega,ae3,agh,show a+(i - a)=i by omega,hc]at hx
 rcases aem.1 hx with hx|hx
 ·exact h4 x hx
 rw[ael.1 hx];exact hn
theorem Tb.sF.piece {s:List UInt8} {acc:List (List UInt8)} {a i:Nat} {l:List UInt8} (h:Tb.sF s acc a i) (hi:i<=s.length) (hc:i<s.length->s[i]?=some 59) (hl:(s.drop a).take (i - a)=l):
  (Gr.bC l=false->Tb.kT [] (Tb.dA s)=60)/\(Gr.bC l=true->l∈acc->Tb.kT [] (Tb.dA s)=7)/\(Gr.bC l=true->l∉acc->Tb.sF s (acc++[l]) (i+1) (i+1)):=by
 obtain⟨h1,h2,h3,h4⟩:=h.run hi;rw[hl]at h4
 obtain⟨rest,hr,hrun,hfin⟩: ∃rest,Tb.dA (s.drop a)=l :: rest/\(i<s.length->rest=Tb.dA (s.drop (i+1)))/\(i=s.length->rest=[]):=by
  by_cases hlt:i<s.length
  ·refine⟨Tb.dA (s.drop (i+1)), ?_,fun _=>rfl,fun e=>absurd e (by omega)⟩
   have e:s.drop a=l++59 :: s.drop (i+1):=by
    conv=>lhs;rw[<-aeN (i - a) (s.drop a),hl,am3,show a+(i - a)=i by omega,wV (hc hlt)]
   rw[e];exact Tb.Uj l _ h4
  refine⟨[], ?_,fun e=>absurd e hlt,fun _=>rfl⟩
  have e:s.drop a=l:=by rw[<-hl,ado (by rw[aej];omega)]
  rw[e];exact Tb.Uk l h4
 rw[hr]at h2 h3
 refine⟨fun hg=>by rw[h3,Tb.kT,adk hg],fun hg hm=>by rw[h3,Tb.kT,ade (by rw[hg];decide),adk hm],fun hg hm=> ?_⟩
 have h5:Tb.kT [] (Tb.dA s)=Tb.kT (acc++[l]) rest:=by rw[h3,Tb.kT,ade (by rw[hg];decide),ade hm]
 have h6:Tb.dA s=(acc++[l])++rest:=by rw[h2];simp
 refine⟨fun hle=> ?_,fun hgt=> ?_⟩
 ·rw[hrun (by omega)]at h5 h6
  exact⟨ac4 _,h6,h5,fun x hx=>by simp at hx⟩
 rw[hfin (by omega)]at h5 h6
 exact⟨by rw[h6,aey],by rw[h5];rfl⟩
def alA (R:List (List UInt8)×Nat) (w:World) (e:Ending) (w':World):Prop:=
 ∃v,e=.returned (.tuple #[v,.int .i64 (R.2:Nat)])/\(R.2=0->w'.ownsRow w.heap.size 9 1 v R.1.length (R.1.map ST))/\Below w.heap.size w w'
theorem alB (s:ByteArray) (a i:Nat):(s.extract a i).data.toList=(s.data.toList.drop a).take (i - a):=by
 rw[Lib.extract_data]
theorem alC (s:ByteArray) (w:World) (hs:s.size<=1073741822):
  Calls Tryz.prog 49 #[.string s] w (alA (Tb.oK s.data.toList) w):=by
 obtain⟨R,hR⟩:=aj (Tb.oK s.data.toList);rw[hR];unfold Tb.oK at hR
 have hE:=y7 w w.heap.size 9 0 #[] (ac4 _) rfl
 have RN:Below w.heap.size w (w.alloc (.cells #[] 9)):=(Below.refl _ w).alloc (ac4 _) _
 by_cases h0:s.data.toList=[]
 ·rw[adk h0]at hR
  subst hR;obtain rfl:s=⟨#[]⟩:=by rw[<-UA s,h0];rfl
  have HE:=ah (And.intro hE RN);clear h0 hs hE RN;go_enter Tryz.func49,Tryz.ntmps49;go_wp2
  go_ret2
  exact⟨_,rfl,fun _=>HE.out.1,HE.out.2⟩
 rw[ade h0]at hR
 have t0:s.toList.isEmpty=false:=by
  rw[Lib.toList_data];cases hc:s.data.toList with
  |nil=>exact absurd hc h0
  |cons a r=>rfl
 obtain⟨E,vW⟩:=aj (Tb.kT [] (Tb.dA s.data.toList));rw[vW]at hR;have hl:=Lib.size_eq s
 have HG:=ah (fun(k:Nat) (h:k<s.size)=>yZ s k h)
 have hst:=Tb.sF.start s.data.toList;obtain⟨sl,hsl⟩:=aj s.data.toList
 have hcut:=fun(a i:Nat)=>alB s a i
 rw[hsl]at hR vW hl hst HG hcut;obtain⟨n,hn⟩:=aj s.size;rw[hn]at hl hs;have HR:=ah hR
 have GU:=ah vW;have HST:=ah hst;have aoy:=ah hcut;have HE:=ah (And.intro hE RN)
 have HL:=ah hl;have HN:=ah hn;clear h0 hR vW hst hcut hE RN hl hsl
 go_enter Tryz.func49,Tryz.ntmps49;go_wp2_with fail
 go_loopg [4,5,6] (n+1) (fun q x y z wr=> ∃(i a:Nat) (acc:List (List UInt8)) (A:Option Addr) (c m:Nat),x=.slice A m c/\y=.int .i64 a/\z=.int .i64 i/\i+q=n+1/\Hid (acc.length=m/\m<=i/\a<=i/\Below w.heap.size w wr/\wr.ownsRow w.heap.size 9 1 (.slice A m c) m (acc.map ST)/\Tb.sF sl acc a i))
 case atStart=>exact⟨0,0,[],_,0,0,rfl,rfl,rfl,by omega,rfl,ac4 _,ac4 _,HE.out.2,HE.out.1,HST.out⟩
 obtain⟨i,a,acc,A,c,m,rfl,rfl,rfl,hi,hs⟩:=hrel
 have HS:Hid (acc.length=m/\m<=i/\a<=i/\Below w.heap.size w wr/\wr.ownsRow w.heap.size 9 1 (.slice A m c) m (acc.map ST)/\Tb.sF sl acc a i):=hs
 clear hs HE HST;cases gk with
 |zero=>
  obtain rfl:i=n+1:=by omega
  obtain⟨h1,h2⟩:=HS.out.2.2.2.2.2.fin (by have:=HL.out;omega)
  have hr:R=(acc,0):=by rw[<-HR.out,adk (GU.symm.trans h2),h1]
  subst hr;have hni:(n:Int)<((n+1:Nat):Int):=by omega
  clear h1 h2 hi;go_wp2
  go_ret2
  exact⟨_,rfl,fun _=>by rw[HS.out.1];exact HS.out.2.2.2.2.1,HS.out.2.2.2.1⟩
 |succ q=>
  have hin:i<=n:=by omega
  have D5:(i:Int)<=n:=by omega
  have pi:(0:Int)<=(i:Int):=by omega
  have ti:((i:Int)).toNat=i:=by omega
  have hai:a<=i:=HS.out.2.2.1;have aqk:(a:Int)<=i:=by omega
  have pa:(0:Int)<=(a:Int):=by omega
  have ta:((a:Int)).toNat=a:=by omega
  have HI:=ah hi;by_cases hgo: ∃c,sl[i]?=some c/\c≠59
  ·obtain⟨c1,hc1,hne⟩:=hgo
   have hlt:i<n:=by have:=(adw.1 hc1).1;have:=HL.out;omega
   have QG:(i:Int)<n:=by omega
   have hks:i<s.size:=by have:=HN.out;omega
   have hc:s[i]'hks=c1:=by
    have h1:=HG.out i hks;rw[hc1]at h1;exact(ad4 h1).symm
   have tc:((c1.toNat:Int) !=59)=true:=by
    rw[adY];intro e;exact hne (afi.1 (show c1.toNat=59 by omega))
   have HS2:=ah (show acc.length=m/\m<=i+1/\a<=i+1/\Below w.heap.size w wr/\wr.ownsRow w.heap.size 9 1 (.slice A m c) m (acc.map ST)/\Tb.sF sl acc a (i+1) from
    ⟨HS.out.1,by have:=HS.out.2.1;omega,by omega,HS.out.2.2.2.1,HS.out.2.2.2.2.1,HS.out.2.2.2.2.2.go hc1 hne⟩)
   clear hc1 hne hi HS;go_wp2
   go_roundg q
   case measure=>omega
   exact⟨i+1,a,acc,A,c,m,rfl,rfl,int_eq (by omega),by have:=HI.out;omega,HS2.out⟩
  obtain⟨l,hl⟩:=aj ((sl.drop a).take (i - a))
  have hpc:=HS.out.2.2.2.2.2.piece (by have:=HL.out;omega) (fun hlt=>by
   obtain⟨c1,hc1⟩: ∃c,sl[i]?=some c:=⟨_,dF hlt⟩;by_cases e:c1=59
   ·rw[hc1,e]
   exact absurd ⟨c1,hc1,e⟩ hgo) hl
  have qx:=ah hpc;obtain⟨z,hz⟩:=aj (s.extract a i)
  have hzd:z.data.toList=l:=by rw[<-hz,aoy.out,hl]
  have hzs:z.size<=1073741824:=by rw[Lib.size_eq,hzd,<-hl,aeb];omega
  have hgn:=IK z wr hzs;rw[hzd]at hgn;obtain⟨g,hg⟩:=aj (Gr.bC l);rw[hg]at hgn qx
  have dQ:=ah hgn;have HZD:=ah hzd
  have hbr:(i=n)\/(∃hks:i<s.size,(i<n/\s[i]'hks=59)):=by
   by_cases e:i=n
   ·exact .inl e
   have hks:i<s.size:=by have:=HN.out;omega
   refine .inr ⟨hks,by omega, ?_⟩
   have h1:=HG.out i hks;by_cases e2:s[i]'hks=59
   ·exact e2
   exact absurd ⟨_,h1,e2⟩ hgo
  clear hgo hl hpc hzd hzs hgn hg hi
  rcases hbr with hbr|⟨hks,hlt,hc⟩
  ·subst hbr
   have tii:decide (i<i)=false:=ac5 (by omega)
   go_wp2_with fail;refine dQ.mono ?_;rintro e w5 ⟨rfl,b5⟩
   have bG:=ah (HS.out.2.2.2.1.trans (b5.mono HS.out.2.2.2.1.size))
   have NM:=ah (aW HS.out.2.2.2.2.1 (dL b5 none) (fun g c t fz hr=>by cases hr))
   clear b5 dQ;cases g with
   |false=>
    have hr:R=([],60):=by rw[<-HR.out,<-GU.out,qx.out.1 (by simp),ade (by decide)]
    subst hr;go_wp2
    go_ret2
    exact⟨_,rfl,(fun h=>by cases h),bG.out⟩
   |true=>
   go_wp2_with fail;have aoz:(m:Int)<=1073741823:=by have:=HS.out.2.1;omega
   go_loopg [8] m (fun q x wr=> ∃k:Nat,x=.int .i64 k/\k+q=m/\w5=wr/\Hid (∀y∈acc.take k,y≠l))
   case atStart=>exact⟨0,rfl,by omega,rfl,fun y h=>by simp at h⟩
   obtain⟨k,rfl,hk,rfl,hs⟩:=hrel;have HM:Hid (∀y∈acc.take k,y≠l):=hs;clear hs
   cases gk with
   |zero=>
    obtain rfl:k=m:=by omega
    have hnm:l∉acc:=fun hm=>by
     have h1:=HM.out;rw[ado (by rw[HS.out.1];exact ac4 _)]at h1
     exact h1 l hm rfl
    have gW:=ah (qx.out.2.2 (by simp) hnm)
    have hkb:k<1073741824:=by have:=HS.out.2.1;have:=HN.out;omega
    have hszW:=bG.size;clear hnm hk
    go_wp2_with (at_builtin;refine fD rfl (.tmp 52) (.tmp 54) 34 9 (.string ⟨#[]⟩) 16 Tryz.underlying34 pR rfl (by decide) rfl w.heap.size (.slice A k c) k (acc.map ST) w5 rfl NM.out (.string z) rfl rfl hkb hszW ?_)
    intro v9 w9 aJ bI dD aB;obtain⟨A9,c9,rfl⟩:=aF aJ
    have fC:=ah (show(acc++[l]).length=k+1/\k+1<=i+1/\i+1<=i+1/\Below w.heap.size w w9/\w9.ownsRow w.heap.size 9 1 (.slice A9 (k+1) c9) (k+1) ((acc++[l]).map ST)/\Tb.sF sl (acc++[l]) (i+1) (i+1) from
     ⟨by rw[adf,HS.out.1];rfl,by have:=HS.out.2.1;omega,ac4 _,bG.trans aB,by rw[ad8,aeR,afX,show ST l=.string z by rw[<-HZD.out];rfl];exact aJ,gW.out⟩)
    clear aJ bI dD aB;go_wp2
    go_roundg q
    case measure=>omega
    exact⟨i+1,i+1,acc++[l],A9,c9,k+1,rfl,int_eq (by omega),int_eq (by omega),by have:=HI.out;omega,fC.out⟩
   |succ q2=>
    have hkm:k<m:=by omega
    have Rf:(k:Int)<m:=by omega
    have pk:(0:Int)<=(k:Int):=by omega
    have tk:((k:Int)).toNat=k:=by omega
    obtain⟨y,hy⟩: ∃y,acc[k]?=some y:=⟨_,dF (by rw[HS.out.1];exact hkm)⟩
    obtain⟨gb,rfl,-,cy,-,-⟩:=Ag NM.out (t:=k) (by omega)
    rw[adX,hy]at cy;obtain⟨yz,hyz⟩:=aj (⟨y.toArray⟩:ByteArray)
    have e2:ST y=.string yz:=by rw[<-hyz];rfl
    have cy2:w5.cell? ⟨gb,k,none⟩=some (.string yz):=cy.trans (by rw[<-e2];rfl)
    obtain⟨b,hb⟩:=aj (yz.toList == z.toList)
    have hfg:y=l↔b=true:=by rw[<-hb,aeI,Lib.toList_data,Lib.toList_data,HZD.out,<-hyz]
    have yP:=ah hfg;have HY:=ah hy;have HK:=ah hk;clear hy hyz e2 cy hfg hk;cases b with
    |true=>
     have hr:R=([],7):=by rw[<-HR.out,<-GU.out,qx.out.2.1 (by simp) (by rw[<-yP.out.2 rfl];exact adI HY.out),ade (by decide)]
     subst hr;go_wp2
     go_ret2
     exact⟨_,rfl,(fun h=>by cases h),bG.out⟩
    |false=>
     have oZ:=ah (show∀x∈acc.take (k+1),x≠l from fun x hx=>by
      rw[ae3,HY.out]at hx
      rcases aem.1 hx with hx|hx
      ·exact HM.out x hx
      rw[ael.1 hx];exact fun e=>by have:=yP.out.1 e;cases this)
     go_wp2
     go_roundg q2
     case measure=>omega
     exact⟨k+1,int_eq (by omega),by have:=HK.out;omega,rfl,oZ.out⟩
  have QG:(i:Int)<n:=by omega
  have tc:((59:Int) !=59)=false:=rfl;go_wp2_with fail;refine dQ.mono ?_
  rintro e w5 ⟨rfl,b5⟩;have bG:=ah (HS.out.2.2.2.1.trans (b5.mono HS.out.2.2.2.1.size))
  have NM:=ah (aW HS.out.2.2.2.2.1 (dL b5 none) (fun g c t fz hr=>by cases hr))
  clear b5 dQ;cases g with
  |false=>
   have hr:R=([],60):=by rw[<-HR.out,<-GU.out,qx.out.1 (by simp),ade (by decide)]
   subst hr;go_wp2
   go_ret2
   exact⟨_,rfl,(fun h=>by cases h),bG.out⟩
  |true=>
  go_wp2_with fail;have aoz:(m:Int)<=1073741823:=by have:=HS.out.2.1;omega
  go_loopg [8] m (fun q x wr=> ∃k:Nat,x=.int .i64 k/\k+q=m/\w5=wr/\Hid (∀y∈acc.take k,y≠l))
  case atStart=>exact⟨0,rfl,by omega,rfl,fun y h=>by simp at h⟩
  obtain⟨k,rfl,hk,rfl,hs⟩:=hrel;have HM:Hid (∀y∈acc.take k,y≠l):=hs;clear hs
  cases gk with
  |zero=>
   obtain rfl:k=m:=by omega
   have hnm:l∉acc:=fun hm=>by
    have h1:=HM.out;rw[ado (by rw[HS.out.1];exact ac4 _)]at h1
    exact h1 l hm rfl
   have gW:=ah (qx.out.2.2 (by simp) hnm)
   have hkb:k<1073741824:=by have:=HS.out.2.1;have:=HN.out;omega
   have hszW:=bG.size;clear hnm hk
   go_wp2_with (at_builtin;refine fD rfl (.tmp 52) (.tmp 54) 34 9 (.string ⟨#[]⟩) 16 Tryz.underlying34 pR rfl (by decide) rfl w.heap.size (.slice A k c) k (acc.map ST) w5 rfl NM.out (.string z) rfl rfl hkb hszW ?_)
   intro v9 w9 aJ bI dD aB;obtain⟨A9,c9,rfl⟩:=aF aJ
   have fC:=ah (show(acc++[l]).length=k+1/\k+1<=i+1/\i+1<=i+1/\Below w.heap.size w w9/\w9.ownsRow w.heap.size 9 1 (.slice A9 (k+1) c9) (k+1) ((acc++[l]).map ST)/\Tb.sF sl (acc++[l]) (i+1) (i+1) from
    ⟨by rw[adf,HS.out.1];rfl,by have:=HS.out.2.1;omega,ac4 _,bG.trans aB,by rw[ad8,aeR,afX,show ST l=.string z by rw[<-HZD.out];rfl];exact aJ,gW.out⟩)
   clear aJ bI dD aB;go_wp2
   go_roundg q
   case measure=>omega
   exact⟨i+1,i+1,acc++[l],A9,c9,k+1,rfl,int_eq (by omega),int_eq (by omega),by have:=HI.out;omega,fC.out⟩
  |succ q2=>
   have hkm:k<m:=by omega
   have Rf:(k:Int)<m:=by omega
   have pk:(0:Int)<=(k:Int):=by omega
   have tk:((k:Int)).toNat=k:=by omega
   obtain⟨y,hy⟩: ∃y,acc[k]?=some y:=⟨_,dF (by rw[HS.out.1];exact hkm)⟩
   obtain⟨gb,rfl,-,cy,-,-⟩:=Ag NM.out (t:=k) (by omega)
   rw[adX,hy]at cy;obtain⟨yz,hyz⟩:=aj (⟨y.toArray⟩:ByteArray)
   have e2:ST y=.string yz:=by rw[<-hyz];rfl
   have cy2:w5.cell? ⟨gb,k,none⟩=some (.string yz):=cy.trans (by rw[<-e2];rfl)
   obtain⟨b,hb⟩:=aj (yz.toList == z.toList)
   have hfg:y=l↔b=true:=by rw[<-hb,aeI,Lib.toList_data,Lib.toList_data,HZD.out,<-hyz]
   have yP:=ah hfg;have HY:=ah hy;have HK:=ah hk;clear hy hyz e2 cy hfg hk;cases b with
   |true=>
    have hr:R=([],7):=by rw[<-HR.out,<-GU.out,qx.out.2.1 (by simp) (by rw[<-yP.out.2 rfl];exact adI HY.out),ade (by decide)]
    subst hr;go_wp2
    go_ret2
    exact⟨_,rfl,(fun h=>by cases h),bG.out⟩
   |false=>
    have oZ:=ah (show∀x∈acc.take (k+1),x≠l from fun x hx=>by
     rw[ae3,HY.out]at hx
     rcases aem.1 hx with hx|hx
     ·exact HM.out x hx
     rw[ael.1 hx];exact fun e=>by have:=yP.out.1 e;cases this)
    go_wp2
    go_roundg q2
    case measure=>omega
    exact⟨k+1,int_eq (by omega),by have:=HK.out;omega,rfl,oZ.out⟩
theorem alD (l:List UInt8) (n:Nat) (h:n<l.length):Lib.trimRightS (l.take (n+1)) [48]=if l[n]'h=48 then Lib.trimRightS (l.take n) [48] else l.take (n+1):=by
 have e:l.take (n+1)=l.take n++[l[n]'h]:=by simp
 rw[e];exact Num.Ol _ _
theorem alE:Lib.trimRightS (Num.hexN 13 0) [48]=[]:=by decide
theorem alF {f:Nat} (hf:f<4503599627370496) (h:Lib.trimRightS (Num.hexN 13 f) [48]=[]):f=0:=by
 obtain⟨j,h1,_⟩:=Num.Ig _ (Num.hexN 13 f) rfl;rw[h,aex]at h1
 have h2:=Num.Oj 13 f 0 (by have e:(16:Nat) ^ 13=4503599627370496:=(by decide);omega)
 rw[h1,Num.Om]at h2;have h3:=ad4 h2;omega
theorem alG {f:Nat} (hf:f<4503599627370496) {tl:List UInt8} (h:Lib.trimRightS (Num.hexN 13 f) [48]=tl):Num.lI f=if tl=[] then[] else 46 :: tl:=by
 unfold Num.lI;by_cases h0:f=0
 ·subst h0
  rw[alE]at h;subst h;rfl
 rw[ade h0,h,ade (fun e=>h0 (alF hf (h.trans e)))]
theorem alH (b:Nat) (w:World) (hb:b<18446744073709551616):
  Calls Tryz.prog 226 #[.int .u64 b] w fun e w'=>e=.returned (.string ⟨(Num.fmt b).toArray⟩)/\Below w.heap.size w w':=by
 obtain⟨a,ha⟩:=aj (b % 9223372036854775808)
 obtain⟨neg,hneg⟩:=aj (decide (9223372036854775808<=b))
 have hf:Num.fmt b=if 9218868437227405312<a then Num.pO else Num.sg neg++Num.dV a:=by unfold Num.fmt;rw[ha,hneg]
 obtain⟨SG,XT⟩:=aj (⟨(Num.sg neg).toArray⟩:ByteArray)
 have aqm:SG.size<=1:=by rw[<-XT,gq];cases neg<;>simp[Num.sg]
 have hai:(a:Int)<=9223372036854775807:=by omega
 have aoB:(0:Int)<=a:=by omega
 have HA:=ah ha;have EC:=ah hneg;have Jq:=ah XT;obtain⟨RES,NP⟩:=aj (Num.fmt b)
 rw[NP]at hf⊢;have kD:=ah hf;clear ha hneg XT hf NP;go_enter Tryz.func226,Tryz.ntmps226
 go_upto_if 9 with fail
 go_cut [0,3] (fun s0 s3 wx=>s0=.int .u64 a/\s3=.string SG/\w=wx)
 case first=>
  by_cases hs:9223372036854775808<=b
  ·have bs:decide (9223372036854775808<=(b:Int))=true:=adb (by omega)
   have hbi:(9223372036854775808:Int)<=b:=by omega
   have aqn:(b:Int)<=18446744073709551615:=by omega
   have hsg:SG=⟨#[45]⟩:=by rw[<-Jq.out,<-EC.out,adb hs];rfl
   have hv:(b:Int) - 9223372036854775808=a:=by have:=HA.out;omega
   have HV:=ah hv;have HS:=ah hsg;clear hv hsg hs hb;go_simp;go_wp2_with fail;go_meet
   exact⟨int_eq' HV.out,by rw[HS.out],rfl⟩
  have bs:decide (9223372036854775808<=(b:Int))=false:=ac5 (by omega)
  have hsg:SG=⟨#[]⟩:=by rw[<-Jq.out,<-EC.out,ac5 hs];rfl
  have hv:(b:Int)=a:=by have:=HA.out;omega
  have HV:=ah hv;have HS:=ah hsg;clear hv hsg hs hb;go_simp;go_wp2_with fail;go_meet
  exact⟨int_eq' HV.out,by rw[HS.out],rfl⟩
 obtain⟨rfl,rfl,rfl⟩:=hcut;clear EC HA;by_cases fE:9218868437227405312<a
 ·have hr:RES=Num.pO:=by rw[kD.out,adk fE]
  have HR:=ah hr;clear hr
  have b2:decide (9218868437227405312<(a:Int))=true:=adb (by omega)
  clear fE hb;go_wp2;go_ret;exact⟨by rw[HR.out];rfl,Below.refl _ _⟩
 have b2:decide (9218868437227405312<(a:Int))=false:=ac5 (by omega)
 by_cases dM:a=9218868437227405312
 ·have e1:Num.dV a=Num.rU:=by unfold Num.dV;rw[adk dM]
  have hr:RES=Num.sg neg++Num.rU:=by rw[kD.out,ade fE,e1]
  have HR:=ah hr;have b3:((a:Int) == 9218868437227405312)=true:=by rw[aeI];omega
  clear fE dM e1 hb hr;go_wp2;go_ret;exact⟨by rw[HR.out,<-Jq.out,Ii];rfl,Below.refl _ _⟩
 have b3:((a:Int) == 9218868437227405312)=false:=by rw[adh];omega
 by_cases h0:a=0
 ·have e1:Num.dV a=Num.ZERO:=by unfold Num.dV;rw[ade dM,adk h0]
  have hr:RES=Num.sg neg++Num.ZERO:=by rw[kD.out,ade fE,e1]
  have HR:=ah hr;have b4:((a:Int) == 0)=true:=by rw[aeI];omega
  clear fE dM h0 e1 hb hr;go_wp2;go_ret
  exact⟨by rw[HR.out,<-Jq.out,Ii];rfl,Below.refl _ _⟩
 have b4:((a:Int) == 0)=false:=by rw[adh];omega
 have e1:Num.dV a=Num.form (Num.gU a) (Num.gI a):=by unfold Num.dV;rw[ade dM,ade h0]
 have hr:RES=Num.sg neg++Num.form (Num.gU a) (Num.gI a):=by rw[kD.out,ade fE,e1]
 obtain⟨p1,p2,p3,-,-⟩:=Num.Ov h0 (by omega)
 obtain⟨E,hE⟩:=aj (Num.gI a);obtain⟨f,hf⟩:=aj (Num.gU a);rw[hE,hf]at hr;have HR:=ah hr
 rw[hE]at p2 p3;rw[hf]at p1;obtain⟨X,hX⟩:=aj (E+1023)
 obtain⟨G,hG⟩:=aj (f+4503599627370496);have hx1:X<=2046:=by omega
 have hx2: -51<=X:=by omega
 have hg1:(G:Int)<9007199254740992:=by omega
 have hg2:(4503599627370496:Int)<=G:=by omega
 have HE:=ah hE;have HF:=ah hf;have HX:=ah hX;have HG:=ah hG;have H0:=ah h0;have HN:=ah fE
 have HI:=ah dM;have hai2:(a:Int)<=9218868437227405312:=by omega
 clear hE hf hX hG e1 h0 fE dM hb hr kD
 go_upto_if 29 with fail
 go_cut [4,5] (fun s4 s5 wx=>s4=.int .i64 X/\s5=.int .u64 G/\w=wx)
 case first=>
  clear hx1 hx2 hg1 hg2 p1 p2 p3;by_cases hx:a<4503599627370496
  ·obtain⟨u1,u2,u3,u4⟩:=Num.Ou H0.out hx
   have en:X=1 -(Num.up a:Int):=by rw[<-HX.out,<-HE.out];unfold Num.gI;rw[adk hx];omega
   have fn:G=a*2 ^ Num.up a:=by rw[<-HG.out,<-HF.out];unfold Num.gU;rw[adk hx];omega
   obtain⟨U,hU⟩:=aj (Num.up a);rw[hU]at u1 u2 u3 u4 en fn
   have k1:(a:Int) / 4503599627370496=0:=by omega
   have ha1:(a:Int)<4503599627370496:=by omega
   have hU1:(1:Int)<=U:=by omega
   have hU2:(U:Int)<=52:=by omega
   have BR:=ah en;have XU:=ah fn;have aP:=ah u2;have VI:=ah u3;have VJ:=ah u4
   clear en fn hU u1 u2 u3 u4 hx;refine wp_cond_true (by simp only[k1];rfl) ?_
   go_wp2_with fail
   go_loopg [4,5] U (fun g x y wr=> ∃j:Nat,j+g=U/\x=.int .i64 (1 -(j:Int))/\y=.int .u64 ((a*2 ^ j:Nat):Int)/\w=wr)
   case atStart=>exact⟨0,by omega,rfl,by simp,rfl⟩
   obtain⟨j,hj,rfl,rfl,rfl⟩:=hrel;have HJ:=ah hj;clear hj;cases gk with
   |succ g=>
    have hj1:j+1<=U:=by have:=HJ.out;omega
    obtain⟨y,hy⟩:=aj (a*2 ^ j)
    have hyb:y<4503599627370496:=by
     have e1:a*2 ^(j+1)<=a*2 ^ U:=afZ _ (afa (by decide) hj1)
     rw[afk,<-afY,hy]at e1;have:=VJ.out;omega
    have hy2:a*2 ^(j+1)=y*2:=by rw[afk,<-afY,hy]
    rw[hy];have HY:=ah hy2;have yi:(y:Int)<4503599627370496:=by omega
    have ji:(j:Int)<=52:=by have:=aP.out;omega
    clear hy hy2;go_wp2
    go_roundg g
    case measure=>omega
    exact⟨j+1,by have:=HJ.out;omega,int_eq' (by omega),by rw[HY.out];exact int_eq' (by omega),rfl⟩
   |zero=>
    obtain rfl:j=U:=by have:=HJ.out;omega
    obtain⟨y,hy⟩:=aj (a*2 ^ j);rw[hy]
    have yi:(4503599627370496:Int)<=y:=by have:=VI.out;omega
    have dy:decide ((y:Int)<4503599627370496)=false:=ac5 (by omega)
    have HY:=ah hy;clear hy hai hai2 ha1 b2 b3 b4 k1;go_wp2_with fail;go_meet
    exact⟨int_eq' BR.symm,int_eq' (by rw[XU.out,HY.out]),rfl⟩
  have en:X=((a / 4503599627370496:Nat):Int):=by rw[<-HX.out,<-HE.out];unfold Num.gI;rw[ade hx];omega
  have fn:G=a % 4503599627370496+4503599627370496:=by rw[<-HG.out,<-HF.out];unfold Num.gU;rw[ade hx]
  have t1:((a:Int) / 4503599627370496 == 0)=false:=by rw[adh];omega
  have BR:=ah en;have XU:=ah fn;have ha1:(4503599627370496:Int)<=a:=by omega
  clear en fn hx;refine wp_cond_false (by simp only[t1];rfl) ?_
  go_wp2_with fail;go_meet
  exact⟨int_eq' (by rw[BR.out];omega),int_eq' (by rw[XU.out];omega),rfl⟩
 obtain⟨rfl,rfl,rfl⟩:=hcut;have kE:X - 1023=E:=by have:=HX.out;omega
 have kG:(G:Int) - 4503599627370496=f:=by have:=HG.out;omega
 obtain⟨jh,h13⟩:=aj (Num.hexN 13 f);have mW:jh.length=13:=by rw[<-h13];exact Num.uQ 13 f
 obtain⟨z,hz⟩:=aj (⟨jh.toArray⟩:ByteArray);have hzl:z.size=13:=by rw[<-hz,gq,mW]
 have hzd:z.data.toList=jh:=by rw[<-hz]
 obtain⟨tl,htl⟩:=aj (Lib.trimRightS jh [48])
 have hfr:=alG (tl:=tl) p1 (by rw[h13];exact htl)
 have XV:=fun(W:World)=>ahm f 13 W (by omega) (by omega)
 rw[h13,hz]at XV;have aoC:=ah XV;have jB:=ah hfr;have HZD:=ah hzd;have sJ:=ah mW
 have oU:=ah htl;clear hfr XV h13 hz hzd mW htl HE HF HX HG H0 HN HI b2 b3 b4 hai hai2 aoB
 go_wp2_with fail;refine(aoC.out _).mono ?_;rintro e w1 ⟨rfl,hb1⟩;have HB1:=ah hb1
 clear hb1;clear hg1 hg2 p1 kG
 go_upto_block 2 with fail
 go_cut [7] (fun s7 wx=>s7=.int .i64 (tl.length:Int)/\tl=jh.take tl.length/\w1=wx)
 case first=>
  go_wp2_with fail
  go_loopg [7] 13 (fun g x wr=>g<=13/\x=.int .i64 (g:Int)/\Lib.trimRightS (jh.take g) [48]=tl/\w1=wr)
  case atStart=>exact⟨by omega,rfl,by rw[ado (by rw[sJ.out];exact ac4 _)];exact oU.out,rfl⟩
  obtain⟨hg,rfl,htk,rfl⟩:=hrel;have iG:=ah htk;clear htk;cases gk with
  |zero=>
   have afD: []=tl:=iG.out;have HT:=ah afD;clear afD iG;go_wp2_with fail;go_meet
   exact⟨by rw[<-HT.out];rfl,by rw[<-HT.out];rfl,rfl⟩
  |succ g=>
   have hlt:g<z.size:=by omega
   have gi:(g:Int)<=12:=by omega
   have NQ:g<jh.length:=by rw[sJ.out];omega
   have hz0:z[g]'hlt=jh[g]'NQ:=by
    have h1:=Lib.data_getElem? z g hlt;rw[HZD.out,dF NQ]at h1;exact(ad4 h1).symm
   have hstep:=alD jh g NQ;rw[iG.out]at hstep;obtain⟨c,hc⟩:=aj (z[g]'hlt)
   rw[<-hz0,hc]at hstep;by_cases h48:c=48
   ·have t5:(((z[g]'hlt).toNat:Int) == 48)=true:=by rw[hc,h48];rfl
    rw[adk h48]at hstep;have HS:=ah hstep;clear hstep hz0 hc h48 NQ;go_wp2
    go_roundg g
    case measure=>omega
    exact⟨by omega,int_eq' (by omega),HS.symm,rfl⟩
   have t5:(((z[g]'hlt).toNat:Int) == 48)=false:=by
    rw[hc,adh];intro e;exact h48 (afi.1 (by show c.toNat=48;omega))
   rw[ade h48]at hstep
   have hlen:tl.length=g+1:=by
    rw[hstep,aeb,sJ.out];omega
   have HS:=ah hstep;have HLEN:=ah hlen;clear hstep hz0 hc h48 NQ hlen;go_wp2_with fail
   go_meet;exact⟨int_eq' (by rw[HLEN.out];omega),by rw[HLEN.out];exact HS.out,rfl⟩
 obtain⟨rfl,htk,rfl⟩:=hcut;have iG:=ah htk
 have Ky:tl.length<=13:=by
  have h1:=aeH List.length htk;rw[aeb,sJ.out]at h1;omega
 obtain⟨n,hn⟩:=aj tl.length;rw[hn];rw[hn]at Ky;have HN:=ah hn;clear htk hn
 obtain⟨fs,hfs⟩:=aj (Num.lI f)
 have XW:fs=if tl=[] then[] else 46 :: tl:=by rw[<-hfs];exact jB.out
 have aoD:fs.length<=14:=by
  rw[XW]
  split
  ·simp
  rw[adQ,HN.out];omega
 obtain⟨S3,hS3⟩:=aj (SG ++⟨#[48,120,49]⟩ ++⟨fs.toArray⟩:ByteArray)
 have aqo:S3.size<=20:=by rw[<-hS3,aol,aol];have e:(⟨#[48,120,49]⟩:ByteArray).size=3:=rfl;have e2:(⟨fs.toArray⟩:ByteArray).size=fs.length:=gq fs;omega
 have aZ:=ah hS3;have lZ:=ah hfs;have afE:=ah XW;clear hS3 hfs XW aoD jB
 go_upto_if 56 with fail
 go_cut [3] (fun s3 wx=>s3=.string S3/\w1=wx)
 case first=>
  by_cases ht0:tl=[]
  ·have hn0:n=0:=by rw[<-HN.out,ht0];rfl
   have hs:SG ++⟨#[48,120,49]⟩=S3:=by
    rw[<-aZ.out,afE.out,adk ht0]
    apply afJ
    simp
   have HS:=ah hs;subst hn0;clear hs ht0;go_wp2_with fail;go_meet
   exact⟨by rw[HS.out],rfl⟩
  have hn1:0<n:=by
   have:tl.length≠0:=fun e=>ht0 (adB e)
   rw[HN.out]at this;omega
  have hn2:(1:Int)<=n:=by omega
  have hext:z.extract 0 n=⟨tl.toArray⟩:=by
   apply afJ
   apply Array.toList_inj.1
   rw[Lib.extract_data,HZD.out];have:=iG.out;rw[HN.out]at this;rw[this];simp
  have hs:SG ++⟨#[48,120,49]⟩ ++⟨#[46]⟩++z.extract 0 n=S3:=by
   rw[<-aZ.out,afE.out,ade ht0,hext]
   apply afJ
   simp
  have HS:=ah hs;clear hs ht0 hext;have aqp:n<=z.size:=by omega
  go_wp2_with fail;go_meet;exact⟨by rw[HS.out],rfl⟩
 obtain⟨rfl,rfl⟩:=hcut;by_cases hneg:E<0
 ·obtain⟨m,hm⟩: ∃m:Nat,-E=(m:Int):=⟨(-E).toNat,by omega⟩
  obtain⟨r,hr⟩:=aj (Lib.decDigits m)
  have hrl:r.length<=20:=by rw[<-hr,Num.zX];exact CW 19 m (by omega)
  have hex:Num.fV E=109 :: r:=by
   unfold Num.fV;rw[adk hneg,hm,Lib.itoa_nonneg,hr]
  have XY:=ah hex;have I9:=ah (fun(W:World)=>hr▸Zb m W (by omega))
  have te4:(m:Int)<=2000:=by omega
  have te0:(0:Int)<=m:=by omega
  have te1:E<= -1:=by omega
  clear hr hex;go_wp2_with fail;refine(I9.out _).mono ?_;rintro e w2 ⟨rfl,hb2⟩
  have HB2:=ah hb2;clear hb2 hm;go_wp2;go_ret;refine⟨?_,HB1.trans (HB2.mono HB1.size)⟩
  rw[HR.out,<-aZ.out,<-Jq.out];unfold Num.form;rw[XY.out,lZ.out]
  exact aeH (fun q=>Ending.returned (Value.string q)) (by apply afJ;simp)
 obtain⟨m,hm⟩: ∃m:Nat,E=(m:Int):=⟨E.toNat,by omega⟩
 subst hm;obtain⟨r,hr⟩:=aj (Lib.decDigits m)
 have hrl:r.length<=20:=by rw[<-hr,Num.zX];exact CW 19 m (by omega)
 have hex:Num.fV (m:Int)=112 :: r:=by
  unfold Num.fV;rw[ade hneg,Lib.itoa_nonneg,hr]
 have XY:=ah hex;have I9:=ah (fun(W:World)=>hr▸Zb m W (by omega))
 have te0:(0:Int)<=m:=by omega
 clear hr hex hneg;go_wp2_with fail;refine(I9.out _).mono ?_;rintro e w2 ⟨rfl,hb2⟩
 have HB2:=ah hb2;clear hb2;go_wp2;go_ret;refine⟨?_,HB1.trans (HB2.mono HB1.size)⟩
 rw[HR.out,<-aZ.out,<-Jq.out];unfold Num.form;rw[XY.out,lZ.out]
 exact aeH (fun q=>Ending.returned (Value.string q)) (by apply afJ;simp)
end Go.Proofs.YtkdakckjafomhaaGreatDoor
