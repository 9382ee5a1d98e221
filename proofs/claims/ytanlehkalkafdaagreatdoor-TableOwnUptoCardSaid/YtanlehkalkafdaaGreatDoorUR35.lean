/- Contracts and plain laws,part 35. -/
import Derived.Test.YtanlehkalkafdaaGreatDoorUR34
import Derived.Lib.FrozenHead2
import Derived.Lib.ConvBytes
set_option maxHeartbeats 64000000
set_option maxRecDepth 1000000
set_option linter.all false
namespace Go.Proofs.YtanlehkalkafdaaGreatDoor
open Go.RowKit
theorem own_freshk (w:World) (B T sz n:Nat) (xs:List Value) (hn:xs.length=n*sz) (hB:B<=w.heap.size) (hm:n<=maxLen):(w.alloc (.cells xs.toArray T)).ownsRow B T sz (.slice (some ⟨w.heap.size,0,none⟩) n n) n xs:=
 ⟨hn,.inr ⟨w.heap.size,n,xs.toArray,rfl,hB,Blk.new _ _ _,rM _,hm,by simp[hn],by simp[<-hn]⟩⟩
theorem tb_lit (w:World): ∃V,((((((w.alloc (.cells #[.string ⟨#[65]⟩] 9)).alloc (.cells #[.string ⟨#[107]⟩,.int .i64 2,.int .i64 1,.string ⟨#[]⟩,.slice none 0 0,.slice none 0 0] 53)).alloc (.cells #[.string ⟨#[65]⟩,.string ⟨#[66]⟩] 9)).alloc
  (.cells #[.int .i64 0,.slice (some ⟨w.heap.size,0,none⟩) 1 1,.slice (some ⟨w.heap.size+1,0,none⟩) 1 1,.int .i64 2,.slice (some ⟨w.heap.size+1+1,0,none⟩) 2 2,.slice none 0 0] 48)).alloc (.cells #[.int .i64 5,.string ⟨#[84]⟩,.int .i64 2,.int .i64 0,.slice none 0 0] 55)).alloc
  (.cells #[.slice (some ⟨w.heap.size+1+1+1,0,none⟩) 2 2,.slice (some ⟨w.heap.size+1+1+1+1,0,none⟩) 1 1] 25))=V/\Below w.heap.size w V/\
  GOwn V w.heap.size (.agg #[.slice (some ⟨w.heap.size+1+1+1,0,none⟩) 2 2,.slice (some ⟨w.heap.size+1+1+1+1,0,none⟩) 1 1]) tbG/\
  Blk V (w.heap.size+1+1+1+1+1) 25 #[.slice (some ⟨w.heap.size+1+1+1,0,none⟩) 2 2,.slice (some ⟨w.heap.size+1+1+1+1,0,none⟩) 1 1]:=by
 obtain⟨b,hb⟩:=aj w.heap.size
 have o1:=own_freshk w b 9 1 1 [.string ⟨#[65]⟩] rfl (by omega) (by decide)
 obtain⟨V1,h1⟩:=aj (w.alloc (.cells #[.string ⟨#[65]⟩] 9))
 have z1:V1.heap.size=b+1:=by rw[<-h1];simp[hb]
 rw[h1]at o1
 have o2:=own_freshk V1 b 53 6 1 [.string ⟨#[107]⟩,.int .i64 2,.int .i64 1,.string ⟨#[]⟩,.slice none 0 0,.slice none 0 0] rfl (by omega) (by decide)
 obtain⟨V2,h2⟩:=aj (V1.alloc (.cells #[.string ⟨#[107]⟩,.int .i64 2,.int .i64 1,.string ⟨#[]⟩,.slice none 0 0,.slice none 0 0] 53))
 have z2:V2.heap.size=b+1+1:=by rw[<-h2];simp[z1]
 have o1:=World.ownsRow.alloc o1 (.cells #[.string ⟨#[107]⟩,.int .i64 2,.int .i64 1,.string ⟨#[]⟩,.slice none 0 0,.slice none 0 0] 53)
 rw[h2]at o1 o2
 have o3:=own_freshk V2 b 9 1 2 [.string ⟨#[65]⟩,.string ⟨#[66]⟩] rfl (by omega) (by decide)
 obtain⟨V3,h3⟩:=aj (V2.alloc (.cells #[.string ⟨#[65]⟩,.string ⟨#[66]⟩] 9))
 have z3:V3.heap.size=b+1+1+1:=by rw[<-h3];simp[z2]
 have o1:=World.ownsRow.alloc o1 (.cells #[.string ⟨#[65]⟩,.string ⟨#[66]⟩] 9)
 have o2:=World.ownsRow.alloc o2 (.cells #[.string ⟨#[65]⟩,.string ⟨#[66]⟩] 9)
 rw[h3]at o1 o2 o3;rw[hb]at o1⊢;rw[z1]at o2;rw[z2]at o3
 have o4:=own_freshk V3 b 48 3 2 [.int .i64 0,.slice (some ⟨b,0,none⟩) 1 1,.slice (some ⟨b+1,0,none⟩) 1 1,.int .i64 2,.slice (some ⟨b+1+1,0,none⟩) 2 2,.slice none 0 0] rfl (by omega) (by decide)
 obtain⟨V4,h4⟩:=aj (V3.alloc (.cells #[.int .i64 0,.slice (some ⟨b,0,none⟩) 1 1,.slice (some ⟨b+1,0,none⟩) 1 1,.int .i64 2,.slice (some ⟨b+1+1,0,none⟩) 2 2,.slice none 0 0] 48))
 have z4:V4.heap.size=b+1+1+1+1:=by rw[<-h4];simp[z3]
 have a1:=World.ownsRow.alloc o1 (.cells #[.int .i64 0,.slice (some ⟨b,0,none⟩) 1 1,.slice (some ⟨b+1,0,none⟩) 1 1,.int .i64 2,.slice (some ⟨b+1+1,0,none⟩) 2 2,.slice none 0 0] 48)
 have a2:=World.ownsRow.alloc o2 (.cells #[.int .i64 0,.slice (some ⟨b,0,none⟩) 1 1,.slice (some ⟨b+1,0,none⟩) 1 1,.int .i64 2,.slice (some ⟨b+1+1,0,none⟩) 2 2,.slice none 0 0] 48)
 have a3:=World.ownsRow.alloc o3 (.cells #[.int .i64 0,.slice (some ⟨b,0,none⟩) 1 1,.slice (some ⟨b+1,0,none⟩) 1 1,.int .i64 2,.slice (some ⟨b+1+1,0,none⟩) 2 2,.slice none 0 0] 48)
 rw[h4]at a1 a2 a3 o4;rw[z3]at o4
 have o5:=own_freshk V4 b 55 5 1 [.int .i64 5,.string ⟨#[84]⟩,.int .i64 2,.int .i64 0,.slice none 0 0] rfl (by omega) (by decide)
 have e4:GOwn (V4.alloc (.cells #[.int .i64 5,.string ⟨#[84]⟩,.int .i64 2,.int .i64 0,.slice none 0 0] 55)) b (.agg #[.slice (some ⟨b+1+1+1,0,none⟩) 2 2,.slice (some ⟨b+1+1+1+1,0,none⟩) 1 1]) tbG:=by
  rw[z4]at o5
  have q: ∀{B T sz n:Nat} {v:Value} {xs:List Value},V4.ownsRow B T sz v n xs->(V4.alloc (.cells #[.int .i64 5,.string ⟨#[84]⟩,.int .i64 2,.int .i64 0,.slice none 0 0] 55)).ownsRow B T sz v n xs:=fun h=>World.ownsRow.alloc h _
  refine⟨_,_,[(⟨0,[[65]],[⟨[107],⟨2,1,[],[],[]⟩⟩]⟩,[.int .i64 0,.slice (some ⟨b,0,none⟩) 1 1,.slice (some ⟨b+1,0,none⟩) 1 1]),(⟨2,[[65],[66]],[]⟩,[.int .i64 2,.slice (some ⟨b+1+1,0,none⟩) 2 2,.slice none 0 0])],
   [(⟨5,[84],2,0,[]⟩,[.int .i64 5,.string ⟨#[84]⟩,.int .i64 2,.int .i64 0,.slice none 0 0])],rfl,rfl,fun x hx=> ?_,q o4,rfl,fun x hx=> ?_,o5⟩
  ·rcases uD.1 hx with rfl|hx
   ·exact⟨_,_,rfl,q a1,[(⟨[107],⟨2,1,[],[],[]⟩⟩,[.string ⟨#[107]⟩,.int .i64 2,.int .i64 1,.string ⟨#[]⟩,.slice none 0 0,.slice none 0 0])],rfl,fun y hy=>by
     rw[ug.1 hy]
     exact⟨_,_,rfl,World.ownsRow_nil _ _ _ _,World.ownsRow_nil _ _ _ _⟩,q a2⟩
   rw[ug.1 hx];exact⟨_,_,rfl,q a3,PropsOwn.nil _ _ _⟩
  rw[ug.1 hx];exact⟨_,rfl,PropsOwn.nil _ _ _⟩
 obtain⟨V5,h5⟩:=aj (V4.alloc (.cells #[.int .i64 5,.string ⟨#[84]⟩,.int .i64 2,.int .i64 0,.slice none 0 0] 55))
 have z5:V5.heap.size=b+1+1+1+1+1:=by rw[<-h5];simp[z4]
 rw[h5]at e4
 have hbw:Below b w V5:=by
  rw[<-h5,<-h4,<-h3,<-h2,<-h1]
  exact((((((Below.refl b w).alloc (by omega) _).alloc (by simp;omega) _).alloc (by simp;omega) _).alloc (by simp;omega) _).alloc (by simp;omega) _)
 rw[h1,h2,h3,h4,h5];refine⟨_,rfl,hbw.alloc (by omega) _, ?_, ?_⟩
 ·exact e4.below ((Below.refl _ _).alloc (rM _) _)
 rw[<-z5];exact Blk.new _ _ _
theorem jG (w:World) (hL: ∀V,Below w.heap.size w V->Laid V):Calls Tryz.prog 9 #[] w fun e w'=>e=.returned (.bool true)/\Below w.heap.size w w':=by
 obtain⟨W1,hW1,hb1,hg1,hk1⟩:=tb_lit w;have hok:GOk tbG:=(Tb.parse_sz tb_parse).1.ok
 have hgi:=hg1.gin hok;have hpr:=jF hg1 hok (hL _ hb1)
 obtain⟨za,hza⟩:=aj (⟨TBN.toArray⟩:ByteArray)
 obtain⟨zb,hzb⟩:=aj (⟨TBR.toArray⟩:ByteArray);rw[tb_printR,hza,hzb]at hpr
 have ta:za.toList=TBN:=by rw[<-hza];exact st_toList _
 have tb:zb.toList=TBR:=by rw[<-hzb];exact st_toList _
 have kC:za.data.toList=TBN:=by rw[<-hza]
 have iP:zb.data.toList=TBR:=by rw[<-hzb]
 have hps:=fun(V:World) (hb:Below w.heap.size w V)=>iZ za zb (by rw[Lib.size_eq,kC];decide) (by rw[Lib.size_eq,iP];decide) V (fun X hX=>hL X (hb.trans (hX.mono hb.size)))
 have hp0:=fun(V:World) (hb:Below w.heap.size w V)=>iZ ⟨#[]⟩ zb (by decide) (by rw[Lib.size_eq,iP];decide) V (fun X hX=>hL X (hb.trans (hX.mono hb.size)))
 rw[kC,iP,tb_parse]at hps
 rw[iP,show(⟨#[]⟩:ByteArray).data.toList=[] from rfl,tb_parse0]at hp0
 obtain⟨gb,hgb⟩:=aj (w.heap.size+1+1+1+1+1);rw[hgb]at hk1;have HPR:=ah hpr
 have dJ:=ah hps;have nN:=ah hp0;have nO:=ah hgi;have HK1:=ah hk1;have HB1:=ah hb1
 have HW1:=ah hW1;have nP:=ah hgb;have HOK:=ah hok
 clear hW1 hb1 hg1 hk1 hok hgi hpr hps hp0 hza hzb kC iP hL hgb
 go_enter Tryz.func9,Tryz.ntmps9
 go_upto_region 2 with fail
 rw[HW1.out,nP.out];clear HW1 nP;obtain⟨c0,c1⟩:=cells2 HK1.out;go_wp2_with fail
 refine HPR.mono ?_;rintro e w2 ⟨rfl,b2⟩;have HB2:=ah (HB1.trans (b2.mono HB1.size))
 have HK2:=ah (HK1.below b2 HK1.lt);have HG2:=ah (nO.below b2);have HZ2:=ah b2.size
 clear b2 c0 c1 HPR nO HK1;go_wp2_with fail;refine(dJ.out w2 HB2.out).mono ?_
 rintro e w3 ⟨u3,rfl,g3,b3⟩;have aV:=g3.gin HOK.out
 obtain⟨A3,c3,A4,c4,rfl⟩:=aV.form (a:=2) (b:=1) rfl rfl
 obtain⟨W4,hW4⟩:=aj (w3.alloc (.cells #[.slice A3 2 c3,.slice A4 1 c4] 25))
 obtain⟨gc,hgc⟩:=aj w3.heap.size
 have hb4:Below w3.heap.size w3 W4:=hW4▸(Below.refl _ w3).alloc (rM _) _
 have h24:Below w2.heap.size w2 W4:=b3.trans (hb4.mono b3.size)
 have HK4:=ah (show Blk W4 gc 25 #[.slice A3 2 c3,.slice A4 1 c4] by rw[<-hW4,<-hgc];exact Blk.new _ _ _)
 have HB4:=ah (HB2.trans (h24.mono HB2.size));have kD:=ah (HK2.below h24 HK2.lt)
 have nR:=ah (((HG2.below (h24.mono HZ2.out)).more (rV HZ2.out (rV b3.size (CG hgc)))))
 have nS:=ah (show GIn W4 gc (.agg #[.slice A3 2 c3,.slice A4 1 c4]) tbG from hgc▸aV.below hb4)
 have fE:=ah (show gc<=W4.heap.size from hgc▸hb4.size)
 have HW4:=ah hW4;have dO:=ah hgc;clear aV hW4 hgc hb4 h24 g3 b3 dJ HG2 HK2 HZ2
 go_upto_region 6 with fail
 rw[HW4.out,dO.out];clear HW4 dO;go_wp2_with fail;refine(nN.out W4 HB4.out).mono ?_
 rintro e w5 ⟨u5,rfl,g5,b5⟩
 obtain⟨A5,c5,A6,c6,rfl⟩: ∃A c B d,u5=.agg #[.slice A 0 c,.slice B 0 d]:=by
  obtain⟨sn,sr,ln,lr,rfl,-,-,h3,-,-,h6⟩:=g5;obtain⟨A,c,rfl⟩:=own_form h3
  obtain⟨B,d,rfl⟩:=own_form h6;exact⟨A,c,B,d,rfl⟩
 obtain⟨W6,hW6⟩:=aj (w5.alloc (.cells #[.slice A5 0 c5,.slice A6 0 c6] 25))
 have h46:Below W4.heap.size W4 W6:=b5.trans ((hW6▸(Below.refl _ w5).alloc (rM _) _:Below w5.heap.size w5 W6).mono b5.size)
 have HB6:=ah (HB4.trans (h46.mono HB4.size));have hka:=kD.below h46 kD.lt
 have hk4:=HK4.below h46 HK4.lt
 have HSM:=ah (refSame_any gc _ _ tbG W6 (nR.below (h46.mono fE.out)) (nS.below (h46.mono fE.out)) (rV fE.out h46.size))
 have HW6:=ah hW6;clear hW6 h46 g5 b5 nN nR nS fE kD HK4
 go_upto_region 7 with fail
 rw[HW6.out];clear HW6;obtain⟨c0,c1⟩:=cells2 hka;obtain⟨d0,d1⟩:=cells2 hk4
 go_wp2_with fail;refine HSM.mono ?_;rintro e w7 ⟨rfl,b7⟩
 have HB7:=ah (HB6.trans (b7.mono HB6.size));clear b7;go_wp2;go_ret;exact⟨rfl,HB7.out⟩
def OwnG (B:Nat) (v:Value) (l:List UInt8) (w:World):Prop:=
 ∃g cap cur fz,v=.slice (some ⟨g,0,none⟩) l.length cap/\B<=g/\w.heap[g]?=some (.cells cur 5 fz)/\(fz.2<=l.length\/cap<=fz.1)/\l.length<=cap/\cap<=maxLen/\cur.size=cap/\cur.toList.take l.length=Lib.byteCells l
theorem OwnG.form {B:Nat} {v:Value} {l:List UInt8} {w:World} (h:OwnG B v l w): ∃A c,v=.slice A l.length c:=by
 obtain⟨g,cap,_,_,e,_⟩:=h;exact⟨_,_,e⟩
theorem OwnG.lt {B:Nat} {v:Value} {l:List UInt8} {w:World} (h:OwnG B v l w): ∀k,v.ownBlock=some k->B<=k/\k<w.heap.size:=by
 obtain⟨g,cap,cur,fz,rfl,hb,hg,_⟩:=h;intro k hk;simp only[Value.ownBlock,uH]at hk
 subst hk;exact⟨hb,(sW.1 hg).1⟩
theorem OwnG.below {B:Nat} {v:Value} {l:List UInt8} {w w':World} (h:OwnG B v l w) (hb:Below w.heap.size w w'):OwnG B v l w':=by
 obtain⟨g,cap,cur,fz,rfl,hB,hg,rest⟩:=h
 exact⟨g,cap,cur,fz,rfl,hB,(hb.block g (sW.1 hg).1).trans hg,rest⟩
theorem OwnG.conv {B:Nat} {v:Value} {l:List UInt8} {w:World} (h:OwnG B v l w):(convert 104 9 v).run Tryz.prog w=.ok (.string ⟨l.toArray⟩) w:=by
 obtain⟨g,cap,cur,fz,rfl,hb,hg,_,h1,h2,h3,h4⟩:=h
 refine run_convert_bytes_back (P:=Tryz.prog) w 104 9 5 ⟨g,0,none⟩ cap l Tryz.underlying104 Tryz.underlying5 Tryz.underlying9 (fun j hj=> ?_)
 rw[add_at]
 have e:(Lib.byteCells l)[j]?=some (.int .u8 (l[j].toNat:Int)):=by simp[Lib.byteCells,ay hj]
 rw[<-h4,zQ,rY hj]at e;simp only[World.cell?,hg,wL]
 simpa using e
theorem OwnG.cell {B:Nat} {v:Value} {l:List UInt8} {w:World} (h:OwnG B v l w) {g:Nat} (hg:v.ownBlock=some g): ∀j u,(Lib.byteCells l)[j]?=some u->w.cell? ((⟨g,0,none⟩:Addr).add j)=some u:=by
 obtain⟨g',cap,cur,fz,rfl,hb,hg',_,h1,h2,h3,h4⟩:=h;simp only[Value.ownBlock,uH]at hg
 subst hg;intro j u hu;rw[add_at]
 have hj:j<l.length:=by
  have:=(rZ.1 hu).1
  simpa[Lib.byteCells] using this
 rw[<-h4,zQ,rY hj]at hu;simp only[World.cell?,hg',wL]
 simpa using hu
theorem OwnG.made (w:World) (B:Nat) (s:ByteArray) (hB:B<=w.heap.size) (hl:s.size<=maxLen):OwnG B (.slice (some ⟨w.heap.size,0,none⟩) s.size (grownCap w s.size 0 5)) s.data.toList (Lib.bytesWorld w 5 s):=by
 have hge:=grownCap_ge w s.size 0 5;have hcm:=grownCap_le_maxLen w s.size 0 5 hl
 have hsz:(Lib.bytesCells w 5 s).size=grownCap w s.size 0 5:=by
  have e:s.data.size=s.size:=rfl
  simp only[Lib.bytesCells,zZ,Array.size_map,Array.size_replicate,e];omega
 refine⟨w.heap.size,_,_,_,by rw[Lib.size_eq],hB,Lib.bytesWorld_at_new w _ s,.inr (by rw[hsz];exact rM _),by rw[<-Lib.size_eq];exact hge,hcm,hsz, ?_⟩
 have e:(Lib.bytesCells w 5 s).toList=Lib.byteCells s.data.toList++List.replicate (grownCap w s.size 0 5 - s.size) (.int .u8 0):=by
  simp[Lib.bytesCells,Lib.byteCells]
 rw[e]
 have hl2:s.data.toList.length=(Lib.byteCells s.data.toList).length:=by simp[Lib.byteCells]
 rw[hl2];exact xO
theorem bytesWorld_below (w:World) (s:ByteArray):Below w.heap.size w (Lib.bytesWorld w 5 s):=
 ⟨rfl,rfl,rfl,by rw[Lib.bytesWorld_size];omega,fun i hi=>Lib.bytesWorld_at_old w _ s i hi⟩
theorem run_storeCells_free (P:Program) (g o:Nat) (t:TypeId) (fz:Nat×Nat): ∀(vs:List Value) (i:Nat) (cur:Array Value) (w:World),w.heap[g]?=some (.cells cur t fz)->(fz.2<=o+i\/o+i+vs.length<=fz.1)->o+i+vs.length<=cur.size->(∀v∈vs,v.oneCell'=true)->
  (storeCells ⟨g,o,none⟩ vs i).run P w=.ok () (w.setRow g (cur.toList.take (o+i)++vs++cur.toList.drop (o+i+vs.length)).toArray)
 |[],i,cur,w,hg,_,_,_=>by
  simp only[storeCells,tC,uO,vw,uz,Array.toArray_toList];rw[setRow_self w g cur t fz hg]
  rfl
 |v :: rest,i,cur,w,hg,hfz,hl,h1=>by
  have hi:o+i<cur.size:=by simp at hl;omega
  have hadd:(⟨g,o,none⟩:Addr).add i=⟨g,o+i,none⟩:=by unfold Addr.add;split<;>simp_all
  have hcell:w.cell? ⟨g,o+i,none⟩=some cur[o+i]:=by simp[World.cell?,hg,hi]
  have hfro:w.frozen? ⟨g,o+i,none⟩=false:=by
   obtain⟨lo,hi'⟩:=fz;simp only[World.frozen?,hg,Bool.and_eq_false_iff,xP]
   simp only[sS]at hfz
   rcases hfz with hfz|hfz
   ·right
    omega
   left
   omega
  have hst:(store ((⟨g,o,none⟩:Addr).add i) v).run P w=.ok () (w.setRow g (cur.setIfInBounds (o+i) v)):=by
   rw[hadd,run_store P w _ v _ (h1 v (by simp)),hcell]
   simp[hfro,setCell_eq_setRow w g (o+i) cur t fz v hg]
  have ih:=run_storeCells_free P g o t fz rest (i+1) (cur.setIfInBounds (o+i) v) (w.setRow g (cur.setIfInBounds (o+i) v)) (setRow_heap w g cur _ t _ hg) (by simp only[sS]at hfz;omega) (by simp at hl⊢;omega) (fun x hx=>h1 x (by simp[hx]))
  simp only[storeCells,Sem.run_bind,hst,Result.andThen_ok,ih,setRow_setRow]
  congr 3
  have e:=list_seg_step cur.toList (o+i) v rest (by simp at hl⊢;omega)
  simpa[zB,wV] using e
theorem byteCells_len (l:List UInt8):(Lib.byteCells l).length=l.length:=by simp[Lib.byteCells]
theorem byteCells_oneCell (l:List UInt8): ∀v∈Lib.byteCells l,v.oneCell'=true:=by
 intro v hv;obtain⟨b,_,rfl⟩:=uU.1 hv;rfl
theorem strCells_eq (s:ByteArray):Lib.strCells s=Lib.byteCells s.data.toList:=by simp[Lib.strCells,Lib.byteCells]
theorem OwnG.room {B:Nat} {l bs:List UInt8} {w:World} {g cap:Nat} {cur:Array Value} {fz:Nat×Nat} (hbg:B<=g) (hg:w.heap[g]?=some (.cells cur 5 fz)) (hfz:fz.2<=l.length\/cap<=fz.1) (hcm:cap<=maxLen) (hcs:cur.size=cap)
  (htake:cur.toList.take l.length=Lib.byteCells l) (hroom:l.length+bs.length<=cap):
  OwnG B (.slice (some ⟨g,0,none⟩) (l.length+bs.length) cap) (l++bs) (w.setRow g (cur.toList.take l.length++Lib.byteCells bs++cur.toList.drop (l.length+bs.length)).toArray)/\
  w.grownBy (w.setRow g (cur.toList.take l.length++Lib.byteCells bs++cur.toList.drop (l.length+bs.length)).toArray) (some g):=by
 refine⟨⟨g,cap,_,fz,by rw[rP],hbg,setRow_heap w g cur _ _ _ hg, ?_,by rw[rP];exact hroom,hcm, ?_, ?_⟩,⟨rfl,rfl,rfl,by simp,fun k _ hk=>setRow_other w g k _ (fun e=>hk (by simp[e]))⟩⟩
 ·rw[rP]
  omega
 ·simp only[xQ,rP,tK,uJ,vH,byteCells_len]
  omega
 rw[htake,sV,byteCells_app,<-sV]
 have e:(l++bs).length=(Lib.byteCells l++Lib.byteCells bs).length:=by simp[byteCells_len]
 rw[e];exact xO
theorem OwnG.fresh {B:Nat} {l:List UInt8} {w:World} {cap:Nat} {cs:Array Value} (hB:B<=w.heap.size) (hge:l.length<=cap) (hcm:cap<=maxLen) (hcs:cs.size=cap) (ht:cs.toList.take l.length=Lib.byteCells l):
  OwnG B (.slice (some ⟨w.heap.size,0,none⟩) l.length cap) l (w.drew.alloc (.cells cs 5))/\ ∀row,w.grownBy (w.drew.alloc (.cells cs 5)) row:=
 ⟨⟨w.heap.size,cap,cs,(0,0),rfl,hB,heap_alloc_new w.drew _,.inl (wG _),hge,hcm,hcs,ht⟩,fun row=>⟨rfl,rfl,rfl,by simp,fun k hk _=>Go.heap_alloc_old w.drew _ hk⟩⟩
theorem run_append_strG {B:Nat} {v:Value} {l:List UInt8} {w:World} (h:OwnG B v l w) (z:ByteArray) (ty:TypeId) (hl:l.length+z.size<1073741824) (hB:B<=w.heap.size):
  ∃v' w',(Builtin.append_ #[104,9] ty #[v,.string z]).run Tryz.prog w=.ok v' w'/\OwnG B v' (l++z.data.toList) w'/\w.grownBy w' v.ownBlock:=by
 obtain⟨i0,hi,hz0,hz1,hz2⟩:=info_parts info_byte;have hfull:=h
 obtain⟨g,cap,cur,fz,rfl,hbg,hg,hfz,hnc,hcm,hcs,htake⟩:=h;have hzl:=Lib.size_eq z
 by_cases hroom:l.length+z.size<=cap
 ·have hf:=Lib.run_firstCells_string (P:=Tryz.prog) w 1 z
  have hst:=run_storeCells_free Tryz.prog g l.length 5 fz (Lib.strCells z) 0 cur w hg (by rw[Lib.strCells_length];omega) (by rw[Lib.strCells_length];omega) (Lib.strCells_oneCell z)
  simp only[vw,Lib.strCells_length]at hst
  have ho:=OwnG.room (B:=B) (l:=l) (bs:=z.data.toList) hbg hg hfz hcm hcs htake (by rw[<-hzl];exact hroom)
  rw[<-hzl,<-strCells_eq]at ho;refine⟨_,_, ?_,ho.1,ho.2⟩
  simp[Builtin.append_,run_underlying Tryz.underlying104,run_underlying Tryz.underlying9,sizeOf,typeInfo,hi,hz1,Builtin.lenOf,hroom,hf,Addr.add_lit,hst]
 have hr:=Lib.run_append_grow_string (P:=Tryz.prog) w 104 9 ty 5 i0 (.int .u8 0) Tryz.underlying104 Tryz.underlying9 hi hz0 ⟨g,0,none⟩ l.length cap (Lib.byteCells l) (by rw[hz1,byteCells_len];omega) (hfull.cell rfl) z (by omega) (by simp only[maxLen]at hcm;omega) (by rw[hz2];exact growslice_fits (by omega) (by omega))
 have hge:=grownCap_ge w (l.length+z.size) cap 5
 have hcm2:=grownCap_le_maxLen w (l.length+z.size) cap 5 (by unfold maxLen;omega)
 have hz1':(Value.int IntKind.u8 0).cells.size=1:=rfl
 have ho:=OwnG.fresh (B:=B) (l:=l++z.data.toList) (w:=w) (cap:=grownCap w (l.length+z.size) cap 5) (cs:=(Lib.byteCells l).toArray ++(Lib.strCells z).toArray++Builtin.zeroCells (Value.int .u8 0).cells (grownCap w (l.length+z.size) cap 5 -(l.length+z.size))) hB (by rw[rP,<-hzl];exact hge) hcm2 (by
  simp only[zZ,xQ,size_zeroCells,hz1',byteCells_len,Lib.strCells_length];omega) (by
  simp only[xw,sV];rw[strCells_eq,<-sV,<-byteCells_app]
  have e:(l++z.data.toList).length=(Lib.byteCells (l++z.data.toList)).length:=(byteCells_len _).symm
  rw[e]
  exact xO)
 refine⟨_,_,hr, ?_,ho.2 _⟩
 have e:(l++z.data.toList).length=l.length+z.size:=by rw[rP,<-hzl]
 rw[e]at ho;exact ho.1
theorem run_append_cellsG {B:Nat} {v:Value} {l:List UInt8} {w:World} (h:OwnG B v l w) (bs:List UInt8) (a:Addr) (m c:Nat) (hm:bs.length=m) (hnews: ∀j u,(Lib.byteCells bs)[j]?=some u->w.cell? (a.add j)=some u) (ty:TypeId) (hl:l.length+m<1073741824) (hB:B<=w.heap.size):
  ∃v' w',(Builtin.append_ #[104,104] ty #[v,.slice (some a) m c]).run Tryz.prog w=.ok v' w'/\OwnG B v' (l++bs) w'/\w.grownBy w' v.ownBlock:=by
 obtain⟨i0,hi,hz0,hz1,hz2⟩:=info_parts info_byte;subst hm;have hfull:=h
 obtain⟨g,cap,cur,fz,rfl,hbg,hg,hfz,hnc,hcm,hcs,htake⟩:=h
 by_cases hroom:l.length+bs.length<=cap
 ·have hf:=run_firstCells_some (P:=Tryz.prog) w 1 bs.length a bs.length c (Lib.byteCells bs) (by rw[byteCells_len];omega) hnews
  have hst:=run_storeCells_free Tryz.prog g l.length 5 fz (Lib.byteCells bs) 0 cur w hg (by rw[byteCells_len];omega) (by rw[byteCells_len];omega) (byteCells_oneCell bs)
  simp only[vw,byteCells_len]at hst
  have ho:=OwnG.room (B:=B) (l:=l) (bs:=bs) hbg hg hfz hcm hcs htake hroom
  refine⟨_,_, ?_,ho.1,ho.2⟩
  simp[Builtin.append_,run_underlying Tryz.underlying104,sizeOf,typeInfo,hi,hz1,Builtin.lenOf,hroom,hf,Addr.add_lit,hst]
 have hr:=run_append_grow (P:=Tryz.prog) w 104 ty 5 i0 (.int .u8 0) Tryz.underlying104 hi hz0 ⟨g,0,none⟩ l.length cap (Lib.byteCells l) (by rw[hz1,byteCells_len];omega) (hfull.cell rfl) a bs.length c (Lib.byteCells bs) (by rw[hz1,byteCells_len];omega) hnews (by omega) (by simp only[maxLen]at hcm;omega) (by rw[hz2];exact growslice_fits (by omega) (by omega))
 have hge:=grownCap_ge w (l.length+bs.length) cap 5
 have hcm2:=grownCap_le_maxLen w (l.length+bs.length) cap 5 (by unfold maxLen;omega)
 have hz1':(Value.int IntKind.u8 0).cells.size=1:=rfl
 have ho:=OwnG.fresh (B:=B) (l:=l++bs) (w:=w) (cap:=grownCap w (l.length+bs.length) cap 5) (cs:=(Lib.byteCells l).toArray ++(Lib.byteCells bs).toArray++Builtin.zeroCells (Value.int .u8 0).cells (grownCap w (l.length+bs.length) cap 5 -(l.length+bs.length))) hB (by rw[rP];exact hge) hcm2 (by
  simp only[zZ,xQ,size_zeroCells,hz1',byteCells_len];omega) (by
  simp only[xw,sV];rw[<-sV,<-byteCells_app]
  have e:(l++bs).length=(Lib.byteCells (l++bs)).length:=(byteCells_len _).symm;rw[e]
  exact xO)
 refine⟨_,_,hr, ?_,ho.2 _⟩;have e:(l++bs).length=l.length+bs.length:=rP;rw[e]at ho
 exact ho.1
theorem wp_append_strG {o:Oper} {a:Act} {K:Act->World->Prop} {Q:Exit->Act->World->Prop} (s x:Operand)
  (ho:o.op=.call {callee:=.builtin .append,args:= #[s,x],argTypes:= #[104,9]})
  (B:Nat) (v:Value) (l:List UInt8) (W:World) (hs:a.eval s=v) (h:OwnG B v l W) (z:ByteArray) (hx:a.eval x=.string z) (hl:l.length+z.size<1073741824) (hB:B<=W.heap.size)
  (k: ∀v' w',OwnG B v' (l++z.data.toList) w'->Below B W w'->K (a.put o.dst v') w'):Oper.wp Tryz.prog o a W K Q:=by
 obtain⟨v',w',hrun,h2,h3⟩:=run_append_strG h z o.type hl hB;unfold Oper.wp execOp
 simp only[ho,resolve,invoke,builtin,Sem.run_bind,Sem.run_pure,Result.andThen_ok,zF,tV,uT,hs,hx,hrun]
 exact k v' w' h2 ((Below.refl B W).grown h3 hB (fun j e=>(h.lt j e).1))
theorem wpList_append_strG {ops:Array Oper} {rest:List Oper} {o:Oper} {a:Act} {Q:Exit->Act->World->Prop} (hgd:o.guard=none) (s x:Operand)
  (ho:o.op=.call {callee:=.builtin .append,args:= #[s,x],argTypes:= #[104,9]})
  (B:Nat) (v:Value) (l:List UInt8) (W:World) (hs:a.eval s=v) (h:OwnG B v l W) (z:ByteArray) (hx:a.eval x=.string z) (hl:l.length+z.size<1073741824) (hB:B<=W.heap.size)
  (k: ∀v' w',OwnG B v' (l++z.data.toList) w'->Below B W w'->wpList Tryz.prog ops Q rest (a.put o.dst v') w'):wpList Tryz.prog ops Q (o :: rest) a W:=
 wpList_plain hgd fun _ hK=>wp_append_strG s x ho B v l W hs h z hx hl hB fun v' w' h1 h2=>hK _ _ (k v' w' h1 h2)
theorem step_append_strG {ops:Array Oper} {o:Oper} {a:Act} {K:Act->World->Prop} {Q:Exit->Act->World->Prop} {E:Prop} (hgd:o.guard=none) (s x:Operand)
  (ho:o.op=.call {callee:=.builtin .append,args:= #[s,x],argTypes:= #[104,9]})
  (B:Nat) (v:Value) (l:List UInt8) (W:World) (hs:a.eval s=v) (h:OwnG B v l W) (z:ByteArray) (hx:a.eval x=.string z) (hl:l.length+z.size<1073741824) (hB:B<=W.heap.size)
  (k: ∀v' w',OwnG B v' (l++z.data.toList) w'->Below B W w'->K (a.put o.dst v') w'):if Region.wanted o (yielded ops a.tmps)=true then Oper.wp Tryz.prog o a W K Q else E:=by
 rw[rY (by simp[Region.wanted,hgd])]
 exact wp_append_strG s x ho B v l W hs h z hx hl hB k
theorem wpList_append_bytesG {ops:Array Oper} {rest:List Oper} {o:Oper} {a:Act} {Q:Exit->Act->World->Prop} (hgd:o.guard=none) (s x:Operand)
  (ho:o.op=.call {callee:=.builtin .append,args:= #[s,x],argTypes:= #[104,104]})
  (B:Nat) (v:Value) (l:List UInt8) (W:World) (hs:a.eval s=v) (h:OwnG B v l W) (bs:List UInt8) (us:List Value) (hu:us=Lib.byteCells bs) (m:Nat) (hm:bs.length=m)
  (hx:a.eval x=.slice (some ⟨W.heap.size,0,none⟩) m m) (hl:l.length+m<1073741824) (hB:B<=W.heap.size)
  (k: ∀v' w',OwnG B v' (l++bs) w'->Below B W w'->wpList Tryz.prog ops Q rest (a.put o.dst v') w'):wpList Tryz.prog ops Q (o :: rest) a (W.alloc (.cells us.toArray 5)):=by
 subst hu
 have hal:Below W.heap.size W (W.alloc (.cells (Lib.byteCells bs).toArray 5)):=(Below.refl _ W).alloc (rM _) _
 have h':=h.below hal;refine wpList_plain hgd fun K hK=> ?_
 obtain⟨v',w',hrun,h2,h3⟩:=run_append_cellsG h' bs ⟨W.heap.size,0,none⟩ m m hm (fun j u hj=>by
  rw[add_at];have:=(Blk.new W 5 (Lib.byteCells bs).toArray).cell (0+j);rw[this]
  simpa using hj) o.type hl (by simp;omega)
 unfold Oper.wp execOp
 simp only[ho,resolve,invoke,builtin,Sem.run_bind,Sem.run_pure,Result.andThen_ok,zF,tV,uT,hs,hx,hrun]
 exact hK _ _ (k v' w' h2 (((Below.refl B W).alloc hB _).grown h3 (by simp;omega) (fun j e=>(h'.lt j e).1)))
end Go.Proofs.YtanlehkalkafdaaGreatDoor
