/- Contracts and plain laws,part 39. -/
import Derived.Test.YtanlehkalkafdaaGreatDoorUT38
set_option maxHeartbeats 64000000
set_option maxRecDepth 1000000
set_option linter.all false
namespace Go.Proofs.YtanlehkalkafdaaGreatDoor
open Go.RowKit
theorem own_freshk (w:World) (B T sz n:Nat) (xs:List Value) (hn:xs.length=n*sz) (hB:B<=w.heap.size) (hm:n<=maxLen):(w.alloc (.cells xs.toArray T)).ownsRow B T sz (.slice (some ⟨w.heap.size,0,none⟩) n n) n xs:=
 ⟨hn, .inr ⟨w.heap.size,n,xs.toArray,rfl,hB,Blk.new _ _ _,kV _,hm,by simp [hn],by simp [<-hn]⟩⟩
theorem tb_lit (w:World): ∃V,((((((w.alloc (.cells #[.string ⟨#[65]⟩] 9)).alloc (.cells #[.string ⟨#[107]⟩, .int .i64 2, .int .i64 1, .string ⟨#[]⟩, .slice none 0 0, .slice none 0 0] 53)).alloc (.cells #[.string ⟨#[65]⟩, .string ⟨#[66]⟩] 9)).alloc
  (.cells #[.int .i64 0, .slice (some ⟨w.heap.size,0,none⟩) 1 1, .slice (some ⟨w.heap.size+1,0,none⟩) 1 1, .int .i64 2, .slice (some ⟨w.heap.size+1+1,0,none⟩) 2 2, .slice none 0 0] 48)).alloc (.cells #[.int .i64 5, .string ⟨#[84]⟩, .int .i64 2, .int .i64 0, .slice none 0 0] 55)).alloc
  (.cells #[.slice (some ⟨w.heap.size+1+1+1,0,none⟩) 2 2, .slice (some ⟨w.heap.size+1+1+1+1,0,none⟩) 1 1] 25))=V/\Below w.heap.size w V/\
  GOwn V w.heap.size (.agg #[.slice (some ⟨w.heap.size+1+1+1,0,none⟩) 2 2, .slice (some ⟨w.heap.size+1+1+1+1,0,none⟩) 1 1]) tbG/\
  Blk V (w.heap.size+1+1+1+1+1) 25 #[.slice (some ⟨w.heap.size+1+1+1,0,none⟩) 2 2, .slice (some ⟨w.heap.size+1+1+1+1,0,none⟩) 1 1]:=by
 obtain ⟨b,hb⟩:=aj w.heap.size
 have o1:=own_freshk w b 9 1 1 [.string ⟨#[65]⟩] rfl (by omega) (by decide)
 obtain ⟨V1,h1⟩:=aj (w.alloc (.cells #[.string ⟨#[65]⟩] 9))
 have z1:V1.heap.size=b+1:=by rw [<-h1];simp [hb]
 rw [h1] at o1
 have o2:=own_freshk V1 b 53 6 1 [.string ⟨#[107]⟩, .int .i64 2, .int .i64 1, .string ⟨#[]⟩, .slice none 0 0, .slice none 0 0] rfl (by omega) (by decide)
 obtain ⟨V2,h2⟩:=aj (V1.alloc (.cells #[.string ⟨#[107]⟩, .int .i64 2, .int .i64 1, .string ⟨#[]⟩, .slice none 0 0, .slice none 0 0] 53))
 have z2:V2.heap.size=b+1+1:=by rw [<-h2];simp [z1]
 have o1:=World.ownsRow.alloc o1 (.cells #[.string ⟨#[107]⟩, .int .i64 2, .int .i64 1, .string ⟨#[]⟩, .slice none 0 0, .slice none 0 0] 53)
 rw [h2] at o1 o2
 have o3:=own_freshk V2 b 9 1 2 [.string ⟨#[65]⟩, .string ⟨#[66]⟩] rfl (by omega) (by decide)
 obtain ⟨V3,h3⟩:=aj (V2.alloc (.cells #[.string ⟨#[65]⟩, .string ⟨#[66]⟩] 9))
 have z3:V3.heap.size=b+1+1+1:=by rw [<-h3];simp [z2]
 have o1:=World.ownsRow.alloc o1 (.cells #[.string ⟨#[65]⟩, .string ⟨#[66]⟩] 9)
 have o2:=World.ownsRow.alloc o2 (.cells #[.string ⟨#[65]⟩, .string ⟨#[66]⟩] 9)
 rw [h3] at o1 o2 o3;rw [hb] at o1⊢;rw [z1] at o2;rw [z2] at o3
 have o4:=own_freshk V3 b 48 3 2 [.int .i64 0, .slice (some ⟨b,0,none⟩) 1 1, .slice (some ⟨b+1,0,none⟩) 1 1, .int .i64 2, .slice (some ⟨b+1+1,0,none⟩) 2 2, .slice none 0 0] rfl (by omega) (by decide)
 obtain ⟨V4,h4⟩:=aj (V3.alloc (.cells #[.int .i64 0, .slice (some ⟨b,0,none⟩) 1 1, .slice (some ⟨b+1,0,none⟩) 1 1, .int .i64 2, .slice (some ⟨b+1+1,0,none⟩) 2 2, .slice none 0 0] 48))
 have z4:V4.heap.size=b+1+1+1+1:=by rw [<-h4];simp [z3]
 have a1:=World.ownsRow.alloc o1 (.cells #[.int .i64 0, .slice (some ⟨b,0,none⟩) 1 1, .slice (some ⟨b+1,0,none⟩) 1 1, .int .i64 2, .slice (some ⟨b+1+1,0,none⟩) 2 2, .slice none 0 0] 48)
 have a2:=World.ownsRow.alloc o2 (.cells #[.int .i64 0, .slice (some ⟨b,0,none⟩) 1 1, .slice (some ⟨b+1,0,none⟩) 1 1, .int .i64 2, .slice (some ⟨b+1+1,0,none⟩) 2 2, .slice none 0 0] 48)
 have a3:=World.ownsRow.alloc o3 (.cells #[.int .i64 0, .slice (some ⟨b,0,none⟩) 1 1, .slice (some ⟨b+1,0,none⟩) 1 1, .int .i64 2, .slice (some ⟨b+1+1,0,none⟩) 2 2, .slice none 0 0] 48)
 rw [h4] at a1 a2 a3 o4;rw [z3] at o4
 have o5:=own_freshk V4 b 55 5 1 [.int .i64 5, .string ⟨#[84]⟩, .int .i64 2, .int .i64 0, .slice none 0 0] rfl (by omega) (by decide)
 have e4:GOwn (V4.alloc (.cells #[.int .i64 5, .string ⟨#[84]⟩, .int .i64 2, .int .i64 0, .slice none 0 0] 55)) b (.agg #[.slice (some ⟨b+1+1+1,0,none⟩) 2 2, .slice (some ⟨b+1+1+1+1,0,none⟩) 1 1]) tbG:=by
  rw [z4] at o5
  have q: ∀{B T sz n:Nat} {v:Value} {xs:List Value},V4.ownsRow B T sz v n xs->(V4.alloc (.cells #[.int .i64 5, .string ⟨#[84]⟩, .int .i64 2, .int .i64 0, .slice none 0 0] 55)).ownsRow B T sz v n xs:=fun h=>World.ownsRow.alloc h _
  refine ⟨_,_, [(⟨0, [[65]], [⟨[107],⟨2,1, [], [], []⟩⟩]⟩, [.int .i64 0, .slice (some ⟨b,0,none⟩) 1 1, .slice (some ⟨b+1,0,none⟩) 1 1]),(⟨2, [[65], [66]], []⟩, [.int .i64 2, .slice (some ⟨b+1+1,0,none⟩) 2 2, .slice none 0 0])],
   [(⟨5, [84],2,0, []⟩, [.int .i64 5, .string ⟨#[84]⟩, .int .i64 2, .int .i64 0, .slice none 0 0])],rfl,rfl,fun x hx=> ?_,q o4,rfl,fun x hx=> ?_,o5⟩
  ·rcases mX.1 hx with rfl | hx
   ·exact ⟨_,_,rfl,q a1, [(⟨[107],⟨2,1, [], [], []⟩⟩, [.string ⟨#[107]⟩, .int .i64 2, .int .i64 1, .string ⟨#[]⟩, .slice none 0 0, .slice none 0 0])],rfl,fun y hy=>by
     rw [lY.1 hy]
     exact ⟨_,_,rfl,World.ownsRow_nil _ _ _ _,World.ownsRow_nil _ _ _ _⟩,q a2⟩
   rw [lY.1 hx];exact ⟨_,_,rfl,q a3,PropsOwn.nil _ _ _⟩
  rw [lY.1 hx];exact ⟨_,rfl,PropsOwn.nil _ _ _⟩
 obtain ⟨V5,h5⟩:=aj (V4.alloc (.cells #[.int .i64 5, .string ⟨#[84]⟩, .int .i64 2, .int .i64 0, .slice none 0 0] 55))
 have z5:V5.heap.size=b+1+1+1+1+1:=by rw [<-h5];simp [z4]
 rw [h5] at e4
 have hbw:Below b w V5:=by
  rw [<-h5,<-h4,<-h3,<-h2,<-h1]
  exact ((((((Below.refl b w).alloc (by omega) _).alloc (by simp;omega) _).alloc (by simp;omega) _).alloc (by simp;omega) _).alloc (by simp;omega) _)
 rw [h1,h2,h3,h4,h5];refine ⟨_,rfl,hbw.alloc (by omega) _, ?_, ?_⟩
 ·exact e4.below ((Below.refl _ _).alloc (kV _) _)
 rw [<-z5];exact Blk.new _ _ _
theorem iy (w:World) (hL: ∀V,Below w.heap.size w V->Laid V):Calls Tryz.prog 9 #[] w fun e w'=>e= .returned (.bool true)/\Below w.heap.size w w':=by
 obtain ⟨W1,hW1,hb1,hg1,hk1⟩:=tb_lit w;have hok:GOk tbG:=(Tb.parse_sz tb_parse).1.ok
 have hgi:=hg1.gin hok;have hpr:=fF hg1 hok (hL _ hb1)
 obtain ⟨za,hza⟩:=aj (⟨TBN.toArray⟩:ByteArray)
 obtain ⟨zb,hzb⟩:=aj (⟨TBR.toArray⟩:ByteArray);rw [tb_printR,hza,hzb] at hpr
 have ta:za.toList=TBN:=by rw [<-hza];exact st_toList _
 have tb:zb.toList=TBR:=by rw [<-hzb];exact st_toList _
 have gY:za.data.toList=TBN:=by rw [<-hza]
 have dP:zb.data.toList=TBR:=by rw [<-hzb]
 have hps:=fun (V:World) (hb:Below w.heap.size w V)=>bZ za zb (by rw [Lib.size_eq,gY];decide) (by rw [Lib.size_eq,dP];decide) V (fun X hX=>hL X (hb.trans (hX.mono hb.size)))
 have hp0:=fun (V:World) (hb:Below w.heap.size w V)=>bZ ⟨#[]⟩ zb (by decide) (by rw [Lib.size_eq,dP];decide) V (fun X hX=>hL X (hb.trans (hX.mono hb.size)))
 rw [gY,dP,tb_parse] at hps
 rw [dP,show (⟨#[]⟩:ByteArray).data.toList= [] from rfl,tb_parse0] at hp0
 obtain ⟨gb,hgb⟩:=aj (w.heap.size+1+1+1+1+1);rw [hgb] at hk1;have HPR:=ah hpr
 have bn:=ah hps;have jB:=ah hp0;have jC:=ah hgi;have HK1:=ah hk1;have HB1:=ah hb1
 have HW1:=ah hW1;have dQ:=ah hgb;have HOK:=ah hok
 clear hW1 hb1 hg1 hk1 hok hgi hpr hps hp0 hza hzb gY dP hL hgb
 go_enter Tryz.func9,Tryz.ntmps9
 go_upto_region 2 with fail
 rw [HW1.out,dQ.out];clear HW1 dQ;obtain ⟨c0,c1⟩:=cells2 HK1.out;go_wp2_with fail
 refine HPR.mono ?_;rintro e w2 ⟨rfl,b2⟩;have HB2:=ah (HB1.trans (b2.mono HB1.size))
 have HK2:=ah (HK1.below b2 HK1.lt);have HG2:=ah (jC.below b2);have HZ2:=ah b2.size
 clear b2 c0 c1 HPR jC HK1;go_wp2_with fail;refine (bn.out w2 HB2.out).mono ?_
 rintro e w3 ⟨u3,rfl,g3,b3⟩;have aG:=g3.gin HOK.out
 obtain ⟨A3,c3,A4,c4,rfl⟩:=aG.form (a:=2) (b:=1) rfl rfl
 obtain ⟨W4,hW4⟩:=aj (w3.alloc (.cells #[.slice A3 2 c3, .slice A4 1 c4] 25))
 obtain ⟨gc,hgc⟩:=aj w3.heap.size
 have hb4:Below w3.heap.size w3 W4:=hW4▸(Below.refl _ w3).alloc (kV _) _
 have h24:Below w2.heap.size w2 W4:=b3.trans (hb4.mono b3.size)
 have HK4:=ah (show Blk W4 gc 25 #[.slice A3 2 c3, .slice A4 1 c4] by rw [<-hW4,<-hgc];exact Blk.new _ _ _)
 have HB4:=ah (HB2.trans (h24.mono HB2.size));have gZ:=ah (HK2.below h24 HK2.lt)
 have jD:=ah (((HG2.below (h24.mono HZ2.out)).more (kZ HZ2.out (kZ b3.size (wu hgc)))))
 have jE:=ah (show GIn W4 gc (.agg #[.slice A3 2 c3, .slice A4 1 c4]) tbG from hgc▸aG.below hb4)
 have bC:=ah (show gc<=W4.heap.size from hgc▸hb4.size)
 have HW4:=ah hW4;have bD:=ah hgc;clear aG hW4 hgc hb4 h24 g3 b3 bn HG2 HK2 HZ2
 go_upto_region 6 with fail
 rw [HW4.out,bD.out];clear HW4 bD;go_wp2_with fail;refine (jB.out W4 HB4.out).mono ?_
 rintro e w5 ⟨u5,rfl,g5,b5⟩
 obtain ⟨A5,c5,A6,c6,rfl⟩: ∃A c B d,u5= .agg #[.slice A 0 c, .slice B 0 d]:=by
  obtain ⟨sn,sr,ln,lr,rfl,-,-,h3,-,-,h6⟩:=g5;obtain ⟨A,c,rfl⟩:=own_form h3
  obtain ⟨B,d,rfl⟩:=own_form h6;exact ⟨A,c,B,d,rfl⟩
 obtain ⟨W6,hW6⟩:=aj (w5.alloc (.cells #[.slice A5 0 c5, .slice A6 0 c6] 25))
 have h46:Below W4.heap.size W4 W6:=b5.trans ((hW6▸(Below.refl _ w5).alloc (kV _) _:Below w5.heap.size w5 W6).mono b5.size)
 have HB6:=ah (HB4.trans (h46.mono HB4.size));have hka:=gZ.below h46 gZ.lt
 have hk4:=HK4.below h46 HK4.lt
 have HSM:=ah (refSame_any gc _ _ tbG W6 (jD.below (h46.mono bC.out)) (jE.below (h46.mono bC.out)) (kZ bC.out h46.size))
 have HW6:=ah hW6;clear hW6 h46 g5 b5 jB jD jE bC gZ HK4
 go_upto_region 7 with fail
 rw [HW6.out];clear HW6;obtain ⟨c0,c1⟩:=cells2 hka;obtain ⟨d0,d1⟩:=cells2 hk4
 go_wp2_with fail;refine HSM.mono ?_;rintro e w7 ⟨rfl,b7⟩
 have HB7:=ah (HB6.trans (b7.mono HB6.size));clear b7;go_wp2;go_ret;exact ⟨rfl,HB7.out⟩
theorem jL (s t:ByteArray) (w:World) (hs:s.size<=1073741823) (ht:t.size<=1073741823) (hL:Laid w):
  Calls Tryz.prog 6 #[.string s, .string t] w fun e w'=>e= .returned (.bool true)/\Below w.heap.size w w':=by
 have HSP:=ah (iy w (fun V hV=>hL.below hV))
 obtain ⟨R,hR⟩:=aj (Tb.parse s.data.toList t.data.toList);obtain ⟨g,e0⟩:=R
 have HSZ:=ah (Tb.parse_sz hR)
 have hp:=fun (V:World) (hb:Below w.heap.size w V)=>bZ s t hs ht V (fun X hX=>hL.below (hb.trans (hX.mono hb.size)))
 rw [hR] at hp;have HP:=ah hp;have HL:=ah hL;clear hR hp hL
 go_enter Tryz.func6,Tryz.ntmps6;go_wp2_with fail;refine HSP.mono ?_;rintro e w1 ⟨rfl,b1⟩
 have HB1:=ah b1;clear b1 HSP;go_wp2_with fail;refine (HP.out w1 HB1.out).mono ?_
 rintro e w2 ⟨u,rfl,hg,b2⟩;have HOK:=ah (show GOk g from HSZ.out.1.ok)
 have aG:=hg.gin HOK.out;obtain ⟨nn,hnn⟩:=aj g.nodes.length
 obtain ⟨rn,hrn⟩:=aj g.rels.length;obtain ⟨A1,c1,A2,c2,rfl⟩:=aG.form hnn hrn
 obtain ⟨W3,hW3⟩:=aj (w2.alloc (.cells #[.slice A1 nn c1, .slice A2 rn c2] 25))
 obtain ⟨gb,hgb⟩:=aj w2.heap.size
 have hb3:Below w2.heap.size w2 W3:=hW3▸(Below.refl _ w2).alloc (kV _) _
 have HK3:=ah (show Blk W3 gb 25 #[.slice A1 nn c1, .slice A2 rn c2] by rw [<-hW3,<-hgb];exact Blk.new _ _ _)
 have HG3:=ah (show GIn W3 w2.heap.size (.agg #[.slice A1 nn c1, .slice A2 rn c2]) g from aG.below hb3)
 have HZ3:=ah hb3.size
 have HB3:=ah ((HB1.trans (b2.mono HB1.size)).trans (hb3.mono (kZ HB1.size b2.size)))
 have HW3:=ah hW3;have dQ:=ah hgb;have HNN:=ah (And.intro hnn hrn)
 clear hgb hW3 hb3 hnn hrn aG hg b2
 go_upto_region 4 with fail
 rw [HW3.out,dQ.out];clear HW3 dQ;obtain ⟨c0,c1⟩:=cells2 HK3.out;by_cases he:e0=0
 ·subst he
  have HR:=ah (right_table (HSZ.out.2.1 rfl))
  have HSM:=ah (small_of_good (HSZ.out.2.1 rfl).good)
  have hck:=refCheck_any w2.heap.size _ g W3 HG3.out HZ3.out;rw [HR.out.1] at hck
  have HCK:=ah hck;clear hck;go_wp2_with fail;refine HCK.mono ?_;rintro e w4 ⟨rfl,b4⟩
  have HB4:=ah (HB3.trans (b4.mono HB3.size));have HK4:=ah (HK3.below b4 HK3.lt)
  have HG4:=ah (HG3.below (b4.mono HZ3.out));have bC:=ah (kZ HZ3.out b4.size)
  clear b4 c0 c1 HCK;obtain ⟨c0,c1⟩:=cells2 HK4.out
  have HCP:=ah (refCopy_any w2.heap.size _ g w4 HG4.out bC.out HSM.out);go_wp2_with fail
  refine HCP.mono ?_;rintro e w5 ⟨u5,rfl,hg5,b5⟩
  have HB5:=ah (HB4.trans (b5.mono HB4.size));have HK5:=ah (HK4.below b5 HK4.lt)
  have HG5:=ah (HG4.below (b5.mono bC.out));have HZ5:=ah (kZ bC.out b5.size)
  have hpr:=fF hg5 HOK.out (HL.below HB5.out)
  obtain ⟨z,hz⟩:=aj (⟨(Tb.print g).1.toArray⟩:ByteArray)
  obtain ⟨y,hy⟩:=aj (⟨(Tb.print g).2.toArray⟩:ByteArray);rw [HR.out.2.1,hz,hy] at hpr
  have hzd:z.data.toList=(Tb.print g).1:=by rw [<-hz]
  have hyd:y.data.toList=(Tb.print g).2:=by rw [<-hy]
  have hps:=fun (V:World) (hb:Below w.heap.size w V)=>bZ z y (by rw [Lib.size_eq,hzd];exact kZ HR.out.2.2.1 (by decide)) (by rw [Lib.size_eq,hyd];exact kZ HR.out.2.2.2.1 (by decide)) V (fun X hX=>HL.below (hb.trans (hX.mono hb.size)))
  rw [hzd,hyd,HR.out.2.2.2.2] at hps;have HPR:=ah hpr;have bn:=ah hps
  clear hg5 b5 c0 c1 hpr hps hz hy hzd hyd HCP;go_wp2_with fail;refine HPR.mono ?_
  rintro e w6 ⟨rfl,b6⟩;have HB6:=ah (HB5.trans (b6.mono HB5.size))
  have HK6:=ah (HK5.below b6 HK5.lt);have kC:=ah (HG5.below (b6.mono HZ5.out))
  have jF:=ah (kZ HZ5.out b6.size);clear b6 HPR;go_wp2_with fail
  refine (bn.out w6 HB6.out).mono ?_;rintro e w7 ⟨u7,rfl,hg7,b7⟩;have aG:=hg7.gin HOK.out
  obtain ⟨A3,c3,A4,c4,rfl⟩:=aG.form HNN.out.1 HNN.out.2
  obtain ⟨W8,aY⟩:=aj (w7.alloc (.cells #[.slice A3 nn c3, .slice A4 rn c4] 25))
  obtain ⟨gc,hgc⟩:=aj w7.heap.size
  have hb8:Below w7.heap.size w7 W8:=aY▸(Below.refl _ w7).alloc (kV _) _
  have HK8:=ah (show Blk W8 gc 25 #[.slice A3 nn c3, .slice A4 rn c4] by rw [<-aY,<-hgc];exact Blk.new _ _ _)
  have h68:Below w6.heap.size w6 W8:=b7.trans (hb8.mono b7.size)
  have HK9:=ah (HK6.below h68 HK6.lt);have HB8:=ah (HB6.trans (h68.mono HB6.size))
  have ig:=ah (refSame_any w7.heap.size _ _ g W8 ((kC.below (h68.mono jF.out)).more (kZ jF.out b7.size)) (aG.below hb8) hb8.size)
  have dR:=ah aY;have bD:=ah hgc;clear hgc aY hb8 h68 aG hg7 b7 bn
  go_upto_region 13 with fail
  rw [dR.out,bD.out];clear dR bD;obtain ⟨c0,c1⟩:=cells2 HK8.out
  obtain ⟨d0,d1⟩:=cells2 HK9.out;go_wp2_with fail;refine ig.mono ?_;rintro e w9 ⟨rfl,b9⟩
  have HB9:=ah (HB8.trans (b9.mono HB8.size));clear b9;go_wp2;go_ret;exact ⟨rfl,HB9.out⟩
 have h0:=HSZ.out.2.2 he;have hn0:nn=0:=by rw [<-HNN.out.1,h0];rfl
 have hr0:rn=0:=by rw [<-HNN.out.2,h0];rfl
 subst hn0 hr0;have hne:((e0:Int) !=0)=true:=by rw [mF];omega
 clear h0 he;go_wp2;go_ret;exact ⟨rfl,HB3.out⟩
end Go.Proofs.YtanlehkalkafdaaGreatDoor
