/- Contracts and plain laws,part 32. -/
import Derived.Test.YtanlehkalkafdaaGreatDoorUR30
set_option maxHeartbeats 64000000
set_option maxRecDepth 1000000
set_option linter.all false
namespace Go.Proofs.YtanlehkalkafdaaGreatDoor
open Go.RowKit
def nodeW (n:Gr.N):Nat:=if Gr.labelsWrong n.labels≠0 then Gr.labelsWrong n.labels else Gr.propsWrong n.props
theorem refNodeWrong_any (B:Nat) (p:Gr.N) (Al Ap:Option Addr) (cl cp:Nat) (w:World) (ra:Reads w B 1 Al p.labels.length (p.labels.map ST)) (rp:Lst w B 6 (PropC w B) Ap p.props) (hB:B<=w.heap.size) (hok:NOk p):
  Calls Tryz.prog 40 #[.agg #[.int .i64 p.id,.slice Al p.labels.length cl,.slice Ap p.props.length cp]] w fun e w'=>e=.returned (.int .i64 (nodeW p:Nat))/\Below w.heap.size w w':=by
 obtain⟨R,hR⟩:=aj (nodeW p);rw[hR];unfold nodeW at hR;obtain⟨n,hn⟩:=aj p.labels.length
 obtain⟨pn,hpn⟩:=aj p.props.length;have hl:n<=1073741824:=hn▸hok.ll
 have hLW:Gr.labelsWrong p.labels=if 8<n then 63 else(Gr.first Gr.labelWrong id none p.labels 0).1:=by unfold Gr.labelsWrong;rw[hn]
 have hCP:=fun(X:World) (hb:Below w.heap.size w X)=>refPropsWrong_any B Ap cp p.props X (rp.below (hb.mono hB) (PropC.below (hb.mono hB))) (rV hB hb.size) hok.pl hok.ps
 rw[hn]at ra⊢;rw[hpn]at hCP⊢;have HH:=ah ra;have HS:=ah hok.ls;have HN:=ah hn
 have HU:=ah undef_nil;have HCP:=ah hCP;have HLW:=ah hLW;have HR0:=ah hR;have HBB:=ah hB
 have hb0:Below w.heap.size w (w.alloc (.cells #[.int .i64 p.id,.slice Al n cl,.slice Ap pn cp] 48)):=(Below.refl _ w).alloc (rM _) _
 have HB0:=ah hb0
 have hk0:=Blk.new w 48 #[.int .i64 p.id,.slice Al n cl,.slice Ap pn cp]
 have HK0:=ah hk0;clear ra rp hok hn hpn hCP hLW hR hB hb0 hk0;by_cases h8:8<n
 ·have hr:R=63:=by rw[<-HR0.out,HLW.out,rY h8];rfl
  have h8i:(8:Int)<n:=by omega
  have t8:decide ((8:Int)<n)=true:=rQ h8i;have HRR:=ah hr;clear hr h8
  go_enter Tryz.func40,Tryz.ntmps40;go_wp2;go_ret;exact⟨by rw[HRR.out];rfl,HB0.out⟩
 obtain⟨RL,hRL⟩:=aj ((Gr.first Gr.labelWrong id none p.labels 0).1);have HR:=ah hRL
 have HE:=ah (show R=if RL≠0 then RL else Gr.propsWrong p.props by rw[<-HR0.out,HLW.out,rU h8,hRL])
 have h8i:(n:Int)<=8:=by omega
 have t8:decide ((8:Int)<n)=false:=rO (by omega)
 clear h8 hRL;go_enter Tryz.func40,Tryz.ntmps40;go_wp2_with fail
 go_loopg [3] n (fun g x wr=> ∃k:Nat,x=.int .i64 k/\k+g=n/\Below w.heap.size w wr/\Blk wr w.heap.size 48 #[.int .i64 p.id,.slice Al n cl,.slice Ap pn cp]/\Hid (∀j a,j<k->p.labels[j]?=some a->Gr.labelWrong (Gr.prevAt id p.labels j) a=0))
 case atStart=>exact⟨0,rfl,by omega,HB0.out,HK0.out,fun j a h=>by omega⟩
 obtain⟨k,rfl,hk,hb,hbk,hz⟩:=hrel;have HK:=ah hk
 have HZ:Hid (∀j a,j<k->p.labels[j]?=some a->Gr.labelWrong (Gr.prevAt id p.labels j) a=0):=hz
 have HB:=ah hb;have HBK:=ah hbk;obtain⟨a0,a1,a2⟩:=cells3 hbk;clear hz hb hbk HB0 HK0
 cases gk with
 |zero=>
  obtain rfl:k=n:=by omega
  have hr:=first_done HN.out HR.out HZ.out
  have hr2:R=Gr.propsWrong p.props:=by rw[HE.out,hr,rU (by simp)]
  have HRR:=ah hr2;clear hk hr hr2;go_wp2_with fail;refine(HCP.out _ HB.out).mono ?_
  rintro e w4 ⟨rfl,hb4⟩;have HB4:=ah (HB.trans (hb4.mono HB.size));clear hb4;go_wp2;go_ret
  exact⟨by rw[HRR.out];rfl,HB4.out⟩
 |succ g=>
  have hkn:k<n:=by omega
  have hknI:(k:Int)<n:=by omega
  have pk:(0:Int)<=(k:Int):=by omega
  have tk:((k:Int)).toNat=k:=by omega
  have HHR:=ah (HH.below (HB.mono HBB.out));obtain⟨a,o,x,rfl,hlt,hx,hp⟩:=HHR.cell hkn
  rw[tu]at hx;obtain⟨y,hy,rfl⟩:=uP.1 hx;unfold ST at hp
  obtain⟨z,hz⟩:=aj (⟨y.toArray⟩:ByteArray);rw[hz]at hp
  have hzd:z.data.toList=y:=by rw[<-hz]
  have hzl:z.size<=1073741824:=by rw[Lib.size_eq,hzd];exact HS.out y (sK hy)
  have hcall:=refGoodName_any z wr hzl;rw[hzd]at hcall;have HY:=ah hy;have HZD:=ah hzd
  obtain⟨GN,hg⟩:=aj (Gr.goodName y);rw[hg]at hcall;have HC:=ah hcall;have HGN:=ah hg
  have HHP0:Hid (∀(X:World) (m:Nat) (q:List UInt8),Below wr.heap.size wr X->m<n->p.labels[m]?=some q->X.cell? ⟨a,o+m,none⟩=some (ST q)):=fun X m q hb hm hq=>by
   obtain⟨p',o',x',he,hl',hx',hp'⟩:=HHR.cell (k:=m) hm
   injection he with he
   injection he with he1 he2
   subst he1;subst he2;rw[tu,hq]at hx';cases hx'
   exact((hb.mono (rV HBB.out HB.size)).cell (by exact hl')).trans hp'
  clear hx hk hy hz hzd hzl hcall hg hlt;go_wp2_with fail;refine HC.mono ?_
  rintro e w1 ⟨rfl,hb1⟩;have HB1:=ah (HB.trans (hb1.mono HB.size))
  have hbk1:=HBK.below hb1 HBK.lt;have HBK1:=ah hbk1
  have HHP:Hid (∀(m:Nat) (q:List UInt8),m<n->p.labels[m]?=some q->w1.cell? ⟨a,o+m,none⟩=some (ST q)):=fun m q hm hq=>HHP0.out w1 m q hb1 hm hq
  clear a0 a1 a2 hp;obtain⟨a0,a1,a2⟩:=cells3 hbk1
  have hp:w1.cell? ⟨a,o+k,none⟩=some (.string z):=by have:=HHP.out k y hkn HY.out;rw[this,<-HZD.out];rfl
  clear hbk1 hb1 HHP0 HBK HHR;cases GN with
  |false=>
   have hr:=first_stop HR.out HY.out HZ.out (e:=60) (by unfold Gr.labelWrong;rw[HGN.out,rY rfl]) (by decide)
   have hr2:R=60:=by rw[HE.out,hr,rY (by decide)]
   have HRR:=ah hr2;clear hr hr2;go_wp2;go_ret;exact⟨by rw[HRR.out];rfl,HB1.out⟩
  |true=>
   by_cases h0:k=0
   ·subst h0
    rw[vw]at hp
    have hmore:=first_more HY.out HZ.out (by unfold Gr.labelWrong;rw[HGN.out,rU (by decide)];rfl)
    have HM:=ah hmore;clear hkn hmore
    go_upto_region 8 with fail
    go_quiet (fail)
    go_wp2_with fail
    go_roundg g
    case measure=>omega
    exact⟨1,rfl,by have:=HK.out;omega,by first|exact HB1.out|exact below_drewN HB1.out _,HBK1.out,HM.out⟩
   obtain⟨m,rfl⟩: ∃m,k=m+1:=⟨k - 1,by omega⟩
   obtain⟨q,hq⟩: ∃q,p.labels[m]?=some q:=⟨_,ay (by rw[HN.out];omega)⟩
   have hp':=HHP.out m q (by omega) hq
   unfold ST at hp';obtain⟨zq,hzq⟩:=aj (⟨q.toArray⟩:ByteArray)
   have hzqd:zq.toList=q:=by rw[<-hzq,st_toList]
   rw[hzq]at hp';obtain⟨b1,hb1⟩:=aj (Op.bytesLess z.toList zq.toList)
   obtain⟨b2,hb2⟩:=aj (z.toList == zq.toList)
   have hb:decide (y<=q)=(b1 || b2):=by rw[<-hb1,<-hb2,leq_bytes,hzqd,Lib.toList_data,HZD.out]
   have hmI:(1:Int)<=((m+1:Nat):Int):=by omega
   have hm0:decide ((0:Int)<((m+1:Nat):Int))=true:=rQ (by omega)
   have hm1:(m:Int)<n:=by omega
   have hsub:((m+1:Nat):Int) - 1=(m:Int):=by omega
   have hlw:Gr.labelWrong (Gr.prevAt id p.labels (m+1)) y=if(b1 || b2)=true then 6 else 0:=by
    have hpv:Gr.prevAt id p.labels (m+1)=some q:=by show p.labels[m]?.map id=_;rw[hq];rfl
    unfold Gr.labelWrong;rw[HGN.out,hpv,rU (by decide),<-hb]
    rfl
   have HLW2:=ah hlw
   have HSTOP:=ah (show(b1 || b2)=true->R=6 from fun h=>by
    have:=first_stop HR.out HY.out HZ.out (e:=6) (by rw[HLW2.out,h];rfl) (by decide)
    rw[HE.out,this,rY (by decide)])
   clear hq hkn hlw hb h0 hzq hzqd;cases b1 with
   |true=>
    have hr:=HSTOP.out rfl;have HRR:=ah hr;clear hr
    go_upto_region 8 with fail
    go_quiet (fail)
    go_wp2;go_ret
    exact⟨by rw[HRR.out];rfl,by first|exact HB1.out|exact below_drewN HB1.out _⟩
   |false=>
    cases b2 with
    |true=>
     have hr:=HSTOP.out rfl;have HRR:=ah hr;clear hr
     go_upto_region 8 with fail
     go_quiet (fail)
     go_wp2;go_ret
     exact⟨by rw[HRR.out];rfl,by first|exact HB1.out|exact below_drewN HB1.out _⟩
    |false=>
     have hmore:=first_more HY.out HZ.out (by rw[HLW2.out];rfl)
     have HM:=ah hmore;clear hmore
     go_upto_region 8 with fail
     go_quiet (fail)
     go_wp2_with fail
     go_roundg g
     case measure=>omega
     exact⟨m+1+1,int_eq (by omega),by have:=HK.out;omega,by first|exact HB1.out|exact below_drewN HB1.out _,HBK1.out,HM.out⟩
def LaidB (B n:Nat) (w:World) (e:Ending) (w':World):Prop:= ∃(A':Option Addr) (c':Nat) (l':List UInt8),e=.returned (.slice A' n c')/\OwnB B (.slice A' n c') l' w'/\l'.length=n/\Below B w w'
theorem byte_parts (m:Nat) (hm:m<=65535): ∃y1 y2:UInt8,(m:Int).tdiv 256=(y1.toNat:Int)/\(m:Int).tmod 256=(y2.toNat:Int):=by
 refine⟨UInt8.ofNat (m / 256),UInt8.ofNat (m % 256), ?_, ?_⟩
 ·rw[xM (show m / 256<UInt8.size from Bf (Nat.lt_succ_of_le hm))]
  exact(CO m 256).symm
 rw[xM (show m % 256<UInt8.size from y7 _ (by decide))]
 exact(zC m 256).symm
theorem byte_rules (y:UInt8):wrap64 (y.toNat:Int)=y.toNat/\(y.toNat:Int) % 256=y.toNat:=by
 have h:y.toNat<256:=y.toNat_lt;exact⟨IntWalk.wrap64_in _ (by omega),by omega⟩
theorem refLaid_any (B:Nat) (A:Option Addr) (c n m:Nat) (s:ByteArray) (l:List UInt8) (w:World) (h:OwnB B (.slice A n c) l w) (h1:l.length=n) (hn:n<=536870912) (hs:s.size=m) (hm:m<=65535) (hB:B<=w.heap.size):
  Calls Tryz.prog 180 #[.slice A n c,.string s] w (LaidB B (n+2+m) w):=by
 have H:=ah h;have HL:=ah h1;have hmI:(m:Int)<=65535:=by omega
 have HS:=ah hs;obtain⟨y1,y2,hq1,hq2⟩:=byte_parts m hm;obtain⟨hw0,hw1⟩:=byte_rules y1
 have hln:l.length<1073741824:=by clear hq1 hq2 hw0 hw1;omega
 have HLR:=ah (show∀k,k<=m->n+2+k<1073741824 from fun k hk=>by clear hq1 hq2 hw0 hw1;omega)
 clear h h1;go_enter Tryz.func180,Tryz.ntmps180
 go_wp2_with (at_builtin;refine wpList_append_bytes rfl (.tmp 6) (.tmp 15) rfl B (.slice A n c) l w rfl H.out [y1,y2] _ (by simp[Lib.byteCells,(byte_rules y2).2]) 2 rfl rfl hln (by decide) hB ?_)
 intro v9 w9 ho9 hg9 hb9;have hl9:(l++[y1,y2]).length=n+2:=by rw[rP,HL.out];rfl
 obtain⟨A9,c9,hv9⟩:=ho9.form;rw[hl9]at hv9;subst hv9
 have H0:=ah (show LaidB B (n+2+0) w (.returned (.slice A9 (n+2) c9)) w9 from⟨A9,c9,_,rfl,ho9,hl9,hb9⟩)
 clear ho9 hg9 hb9 hl9 hln hq1 hq2 hw0 hw1;go_wp2_with fail
 go_loopg [0,5] m (fun g v x wr=> ∃(k:Nat) (A':Option Addr) (c':Nat),v=.slice A' (n+2+k) c'/\x=.int .i64 k/\k+g=m/\LaidB B (n+2+k) w (.returned (.slice A' (n+2+k) c')) wr)
 case atStart=>exact⟨0,A9,c9,rfl,rfl,by omega,H0.out⟩
 obtain⟨k,A',c',rfl,rfl,hk,A2,c2,l2,he,ho,hl,hb⟩:=hrel;cases he;have HO:=ah ho
 have HL2:=ah hl;have HB:=ah hb;clear ho hl hb H0;cases gk with
 |zero=>
  obtain rfl:k=m:=by omega
  clear hk;go_wp2;go_ret;exact⟨_,_,_,rfl,HO.out,HL2.out,HB.out⟩
 |succ g=>
  have hkm:k<m:=by omega
  have hkmI:(k:Int)<m:=by omega
  have pk:(0:Int)<=(k:Int):=by omega
  have tk:((k:Int)).toNat=k:=by omega
  have hks:k<s.size:=by rw[HS.out];exact hkm
  obtain⟨y,hy⟩:=aj (s[k]'hks);have HK:=ah hk
  have hl2:l2.length<1073741824:=by rw[HL2.out];exact HLR.out k (by omega)
  have hBr:B<=wr.heap.size:=rV hB HB.size;clear hk hkm
  go_wp2_with (at_builtin;refine wpList_append_bytes rfl (.tmp 23) (.tmp 27) rfl B (.slice A' (n+2+k) c') l2 wr rfl HO.out [y] _ (by simp[Lib.byteCells]) 1 rfl rfl hl2 (by decide) hBr ?_)
  intro v8 w8 ho8 hg8 hb8;have hl8:(l2++[y]).length=n+2+(k+1):=by rw[rP,HL2.out];rfl
  obtain⟨A8,c8,hv8⟩:=ho8.form;rw[hl8]at hv8;subst hv8
  have H8:=ah (show LaidB B (n+2+(k+1)) w (.returned (.slice A8 (n+2+(k+1)) c8)) w8 from⟨A8,c8,_,rfl,ho8,hl8,HB.trans hb8⟩)
  clear ho8 hg8 hb8 hl8 hl2 hBr;go_wp2
  go_roundg g
  case measure=>omega
  exact⟨k+1,A8,c8,rfl,rfl,by have:=HK.out;omega,H8.out⟩
theorem refWidth8 (w:World):Calls Tryz.prog 255 #[.int .i64 8] w fun e w'=>e=.returned (.bool true)/\Below w.heap.size w w':=by
 go_enter Tryz.func255,Tryz.ntmps255;go_wp2;go_ret
 exact⟨rfl,by first|exact Below.refl _ _|exact below_drewN (Below.refl _ _) _⟩
theorem byteCells_set (l:List UInt8) (i:Nat) (y:UInt8):(Lib.byteCells l).set i (.int .u8 (y.toNat:Int))=Lib.byteCells (l.set i y):=by
 unfold Lib.byteCells;rw[BF]
theorem byte_low (v:Nat): ∃y:UInt8,(v:Int).tmod 256=(y.toNat:Int):=by
 refine⟨UInt8.ofNat (v % 256), ?_⟩
 rw[xM (show v % 256<UInt8.size from y7 _ (by decide))]
 exact(zC v 256).symm
theorem refNum8 (v:Nat) (w:World) (hv:v<18446744073709551616):
  Calls Tryz.prog 223 #[.int .i64 8,.int .u64 v] w (LaidB w.heap.size 8 w):=by
 have HV:=ah hv;have HW:=ah (fun(X:World)=>refWidth8 X)
 have H0:=ah (show LaidB w.heap.size 0 w (.returned (.slice (some ⟨w.heap.size,0,none⟩) 0 0)) (w.alloc (.cells #[] 5)) from⟨_,_,[],rfl,own_new w 5 1,rfl,(Below.refl _ w).alloc (rM _) _⟩)
 clear hv;go_enter Tryz.func223,Tryz.ntmps223;go_wp2_with fail;refine(HW.out _).mono ?_
 rintro e w1 ⟨rfl,hb1⟩
 have H1:=ah (show LaidB w.heap.size 0 w (.returned (.slice (some ⟨w.heap.size,0,none⟩) 0 0)) w1 from by
  obtain⟨A',c',l',he,ho,hl,hb⟩:=H0.out
  exact⟨A',c',l',he,own_below ho hb1,hl,hb.trans (hb1.mono hb.size)⟩)
 clear hb1 H0;go_wp2_with fail
 go_loopg [5,6] 8 (fun g v x wr=> ∃(k:Nat) (A':Option Addr) (c':Nat),v=.slice A' k c'/\x=.int .i64 k/\k+g=8/\LaidB w.heap.size k w (.returned (.slice A' k c')) wr)
 case atStart=>exact⟨0,_,_,rfl,rfl,by omega,H1.out⟩
 obtain⟨k,A',c',rfl,rfl,hk,A2,c2,l2,he,ho,hl,hb⟩:=hrel;cases he;have HO:=ah ho
 have HL2:=ah hl;have HB:=ah hb;clear ho hl hb H1;cases gk with
 |zero=>
  obtain rfl:k=8:=by omega
  have H8:=ah (show LaidB w.heap.size 8 w (.returned (.slice A' 8 c')) wr from⟨_,_,_,rfl,HO.out,HL2.out,HB.out⟩)
  clear HO HL2 HB hk;go_wp2_with fail
  go_loopg [1,7] 8 (fun g y x wq=> ∃(u:Nat),y=.int .u64 u/\x=.int .i64 ((g:Int) - 1)/\g<=8/\Hid (u<18446744073709551616)/\LaidB w.heap.size 8 w (.returned (.slice A' 8 c')) wq)
  case atStart=>exact⟨v,rfl,rfl,by omega,HV.out,H8.out⟩
  obtain⟨u,rfl,rfl,hk,hu,A2,c2,l2,he,ho,hl,hb⟩:=hrel;cases he
  have HU:Hid (u<18446744073709551616):=hu;have HO:=ah ho;have HL2:=ah hl;have HB:=ah hb
  clear ho hl hb H8 hu;cases gk with
  |zero=>
   clear hk;go_wp2;go_ret;exact⟨_,_,_,rfl,HO.out,HL2.out,HB.out⟩
  |succ g=>
   have hg1:((g+1:Nat):Int) - 1=(g:Int):=by omega
   rw[hg1];have hgI:(g:Int)<8:=by omega
   have pg:(0:Int)<=(g:Int):=by omega
   have tg:((g:Int)).toNat=g:=by omega
   have hg8:g<8:=by omega
   obtain⟨y,hy⟩:=byte_low u;have hy2:=(byte_rules y).2
   have hq:(u:Int).tdiv 256=((u / 256:Nat):Int):=(CO u 256).symm
   obtain⟨u2,hu2⟩:=aj (u / 256);rw[hu2]at hq
   have HU2:=ah (show u2<18446744073709551616 by rw[<-hu2];exact Nat.lt_of_le_of_lt (Bl _ _) HU.out)
   have ho:=HO.out;unfold OwnB at ho;rw[HL2.out]at ho
   obtain⟨b,rfl,hbl,hcell,hfr,hset⟩:=own_setL (t:=g) ho (by omega)
   have hc0: ∃x,wr.cell? ⟨b,g,none⟩=some x:=⟨_,hcell.trans (ay (by simp[Lib.byteCells,HL2.out];omega))⟩
   obtain⟨x0,hx0⟩:=hc0;have hs9:=hset (.int .u8 (y.toNat:Int));rw[byteCells_set]at hs9
   have HN:=ah (show LaidB w.heap.size 8 w (.returned (.slice (some ⟨b,0,none⟩) 8 c')) (wr.setCell ⟨b,g,none⟩ (.int .u8 (y.toNat:Int))) from⟨_,_,_,rfl,by unfold OwnB;rw[wK,HL2.out];exact hs9,by rw[wK];exact HL2.out,HB.setCell (p:=⟨b,g,none⟩) hbl _⟩)
   have HK:=ah hk;clear ho hcell hset hs9 hk hu2 hbl hg8 hg1;go_wp2_with fail
   go_roundg g
   case measure=>omega
   exact⟨u2,by rw[IntWalk.u64_in _ (by have:=HU2.out;omega)],rfl,by have:=HK.out;omega,HU2.out,HN.out⟩
 |succ g=>
  have hkm:k<8:=by omega
  have hkmI:(k:Int)<8:=by omega
  have HK:=ah hk;have hl2:l2.length<1073741824:=by rw[HL2.out];omega
  have hBr:w.heap.size<=wr.heap.size:=HB.size;clear hk hkm
  go_wp2_with (at_builtin;refine wpList_append_bytes rfl (.tmp 18) (.tmp 19) rfl w.heap.size (.slice A' k c') l2 wr rfl HO.out [0] _ (by simp[Lib.byteCells]) 1 rfl rfl hl2 (by decide) hBr ?_)
  intro v8 w8 ho8 hg8 hb8;have hl8:(l2++[0]).length=k+1:=by rw[rP,HL2.out];rfl
  obtain⟨A8,c8,hv8⟩:=ho8.form;rw[hl8]at hv8;subst hv8
  have H8:=ah (show LaidB w.heap.size (k+1) w (.returned (.slice A8 (k+1) c8)) w8 from⟨A8,c8,_,rfl,ho8,hl8,HB.trans hb8⟩)
  clear ho8 hg8 hb8 hl8 hl2 hBr;go_wp2
  go_roundg g
  case measure=>omega
  exact⟨k+1,A8,c8,rfl,rfl,by have:=HK.out;omega,H8.out⟩
def Byt (W:World) (g off m:Nat):Prop:= ∀j,j<m-> ∃y:UInt8,W.cell? ⟨g,off+j,none⟩=some (.int .u8 (y.toNat:Int))
theorem Byt.grown {W W':World} {g off m:Nat} {row:Option Nat} (h:Byt W g off m) (hg:W.grownBy W' row) (hne:some g≠row):Byt W' g off m:=fun j hj=>by
 obtain⟨y,hy⟩:=h j hj;have hlt:g<W.heap.size:=World.block_lt_of_cell? W ⟨g,off+j,none⟩ hy
 refine⟨y, ?_⟩;have hb:=hg.block g hlt hne;simp only[World.cell?,hb]at hy⊢;exact hy
theorem conv_u64 (x:Int): ∃v:Nat,v<18446744073709551616/\IntKind.u64.wrap x=(v:Int):=by
 have e:IntKind.u64.wrap x=x % 18446744073709551616:=by rw[IntKind.wrap_u64]
 exact⟨(x % 18446744073709551616).toNat,by omega,by rw[e];omega⟩
def LnS (B n k m g off:Nat) (w:World) (A:Option Addr) (c:Nat) (V:World):Prop:= ∃l:List UInt8,OwnB B (.slice A (n+k) c) l V/\l.length=n+k/\Below B w V/\Byt V g off m/\(Value.slice A (n+k) c).ownBlock≠some g
theorem refLaidNum_any (B:Nat) (A:Option Addr) (c n:Nat) (kd x:Int) (l:List UInt8) (w:World) (h:OwnB B (.slice A n c) l w) (h1:l.length=n) (hn:n<=536870912) (hB:B<=w.heap.size):
  Calls Tryz.prog 179 #[.slice A n c,.int .i64 kd,.int .i64 x] w (LaidB B (n+(if kd=1 then 1 else 8)) w):=by
 obtain⟨v,hv,hw⟩:=conv_u64 x;have HNUM:=ah (refNum8 v w hv);have H:=ah h;have HL:=ah h1
 have HN:=ah hn;have HBB:=ah hB;obtain⟨m,hm⟩:=aj (if kd=1 then 1 else 8)
 rw[hm];have HM:=ah hm;clear hv h h1 hn hB hm;go_enter Tryz.func179,Tryz.ntmps179
 go_wp2_with fail;refine HNUM.mono ?_;rintro e w1 ⟨A1,c1,l1,rfl,ho,hl,hb⟩
 have HX:=ah (And.intro ho (And.intro hl hb));clear ho hl hb HNUM hw
 have hX: ∃g,A1=some ⟨g,0,none⟩/\w.heap.size<=g/\Byt w1 g 0 8/\8<=c1:=by
  obtain⟨ho,hl,hb⟩:=HX.out;unfold OwnB at ho;rw[hl]at ho
  rcases ho.2 with⟨e,h0⟩|⟨g,cap,cur,e,hg,hc,q1,q2,q3⟩
  ·exact absurd h0 (by decide)
  cases e;refine⟨g,rfl,hg,fun j hj=> ?_,by first|exact q1|exact q2|omega⟩
  obtain⟨g',e',-,hcl,-⟩:=own_setL (t:=j) ho (by omega)
  cases e'
  exact⟨l1[j]'(by rw[hl];exact hj),by rw[wL,hcl];unfold Lib.byteCells;rw[tu,ay (by rw[hl];exact hj)];rfl⟩
 obtain⟨g,rfl,hgw,hby,hc1⟩:=hX
 have HY:=ah (show∀off,off+m<=8->LnS B n 0 m g off w A c w1 from fun off ho=>⟨l,own_below H.out HX.out.2.2,HL.out,HX.out.2.2.mono HBB.out,fun j hj=>by have:=hby (off+j) (by omega);rwa [wL]at this,fun e=>by have:=(World.ownsRow.lt H.out g e).2;omega⟩)
 clear hby hgw HX;obtain⟨tb,htb⟩:=aj (kd == 1)
 go_upto_if 13 with fail
 go_cut [7] (fun s7 wx=> ∃(off cx:Nat),s7=.slice (some ⟨g,off,none⟩) m cx/\LnS B n 0 m g off w A c wx)
 case first=>
  cases tb with
  |true=>
   have hm1:m=1:=by rw[<-HM.out,rY (uw.1 htb)]
   subst hm1;have hc1I:(8:Int)<=c1:=by omega
   clear htb;refine wp_cond_true rfl ?_;go_wp2;go_meet
   exact⟨7,c1 - 7,by simp,HY.out 7 (by omega)⟩
  |false=>
   have hm8:m=8:=by rw[<-HM.out,rU (fun e=>by rw[e]at htb;cases htb)]
   subst hm8;clear htb;refine wp_cond_false rfl ?_;go_wp2;go_meet
   exact⟨0,c1,rfl,HY.out 0 (by omega)⟩
 obtain⟨off,cx,rfl,hs⟩:=hcut;have HS:=ah hs
 have HM8:=ah (show m<=8 by rw[<-HM.out];split<;>omega)
 clear hs HY;go_wp2_with fail
 go_loopg [0,8] m (fun q v x wr=> ∃(k:Nat) (A':Option Addr) (c':Nat),v=.slice A' (n+k) c'/\x=.int .i64 k/\k+q=m/\LnS B n k m g off w A' c' wr)
 case atStart=>exact⟨0,A,c,rfl,rfl,by omega,HS.out⟩
 obtain⟨k,A',c',rfl,rfl,hk,l2,ho,hl,hb,hy,hne⟩:=hrel;have HO:=ah ho;have HL2:=ah hl
 have HB:=ah hb;have HY:=ah hy;have HNE:=ah hne;clear ho hl hb hy hne HS;cases gk with
 |zero=>
  obtain rfl:k=m:=by omega
  clear hk;go_wp2;go_ret;exact⟨_,_,_,rfl,HO.out,HL2.out,HB.out⟩
 |succ q=>
  have hkm:k<m:=by omega
  have hkmI:(k:Int)<m:=by omega
  have pk:(0:Int)<=(k:Int):=by omega
  have tk:((k:Int)).toNat=k:=by omega
  obtain⟨y,hy⟩:=HY.out k hkm
  have hlt:g<wr.heap.size:=World.block_lt_of_cell? wr ⟨g,off+k,none⟩ hy
  have hl2:n+k<1073741824:=by have:=HN.out;have:=HM8.out;omega
  have hBr:B<=wr.heap.size:=rV HBB.out HB.size;have HK:=ah hk;have HLT:=ah hlt
  have ho:=HO.out;unfold OwnB at ho;rw[HL2.out]at ho;have HO2:=ah ho;clear hk hkm hlt ho
  go_wp2_with (at_builtin;refine wpList_append_one rfl (.tmp 22) (.tmp 27) 104 5 (.int .u8 0) 1 Tryz.underlying104 info_u8 rfl (by decide) rfl B (.slice A' (n+k) c') (n+k) (Lib.byteCells l2) wr rfl HO2.out (.int .u8 (y.toNat:Int)) rfl rfl hl2 hBr ?_)
  intro v9 w9 ho9 hg9 hw9 hb9;obtain⟨A9,c9,rfl⟩:=own_form ho9
  have H9:=ah (show LnS B n (k+1) m g off w A9 c9 w9 from⟨l2++[y],by unfold OwnB;rw[byteCells_app,byteCells_one,rP,HL2.out];exact ho9,by rw[rP,HL2.out];rfl,HB.trans hb9,HY.grown hg9 (fun e=>HNE.out e.symm),fun e=>by
   rcases hw9 with h|⟨b,h,hb⟩
   ·exact HNE.out (h.symm.trans e)
   have e2:b=g:=tN (h.symm.trans e);have:=HLT.out
   omega⟩)
  clear ho9 hg9 hw9 hb9 hl2 hBr hy;go_wp2
  go_roundg q
  case measure=>omega
  exact⟨k+1,A9,c9,rfl,by rw[IntWalk.wrap64_in _ (by have:=HM8.out;have:=HK.out;omega)];rfl,by have:=HK.out;omega,H9.out⟩
theorem encLen_parts (k n:Int) (t:List UInt8) (ns:List Int) (ts:List (List UInt8)):Gr.encLen ⟨k,n,t,ns,ts⟩=if k<4 then 1+(if k=1 then 1 else 8) else if k=4 then 3+t.length else 2+ns.length*(if k - 4=1 then 1 else 8)+(ts.map fun t=>2+t.length).sum:=by
 unfold Gr.encLen;simp only;by_cases h4:k<4
 ·rw[rY h4,rY h4]
  by_cases h1:k=1
  ·rw[rY h1,rY h1]
  rw[rU h1,rU h1]
 rw[rU h4,rU h4];by_cases h6:k=5
 ·rw[rY h6,rY (show k - 4=1 by omega)]
 rw[rU h6,rU (show¬k - 4=1 by omega)]
theorem refEncode_any (B:Nat) (u:Value) (v:Cel.V) (w:World) (h:VIn w B u v) (hB:B<=w.heap.size) (h0:Cel.check v=0):
  Calls Tryz.prog 131 #[u] w fun e w'=> ∃A c,e=.returned (.slice A (Gr.encLen v) c)/\Below w.heap.size w w':=by
 obtain⟨hp1,hp8,-,hp40,ht40,htl,hlg,-⟩:=Cel.check_parts h0
 have hch:=fun(W:World) (hb:Below w.heap.size w W)=>vCheck_any B u v W (h.below (hb.mono hB)) (rV hB hb.size)
 rw[h0]at hch;obtain⟨A1,c1,A2,c2,rfl,ra1,ra2⟩:=h.ex;obtain⟨k0,n0,t0,ns,ts⟩:=v
 simp only at hch ra1 ra2 hp1 hp8 hp40 ht40 htl hlg⊢
 obtain⟨y,rfl⟩: ∃y:UInt8,k0=(y.toNat:Int):=⟨UInt8.ofNat k0.toNat,by rw[xM (show k0.toNat<UInt8.size from by show k0.toNat<256;omega)];omega⟩
 obtain⟨z,hz⟩:=aj (⟨t0.toArray⟩:ByteArray)
 have hzs:z.size=t0.length:=by rw[<-hz];exact size_list _
 rw[hz]at hch⊢;obtain⟨nn,hnn⟩:=aj ns.length;obtain⟨tn,htn⟩:=aj ts.length
 rw[hnn]at hch hp40 ra1⊢;rw[htn]at hch ht40 ra2⊢
 obtain⟨W1,hW1⟩:=aj ((w.alloc (.cells #[.int .i64 (y.toNat:Int),.int .i64 n0,.string z,.slice A1 nn c1,.slice A2 tn c2] 51)).alloc (.cells #[] 5))
 have hb1:Below w.heap.size w W1:=by rw[<-hW1];exact((Below.refl _ w).alloc (rM _) _).alloc (by simp) _
 have k1:Blk W1 w.heap.size 51 #[.int .i64 (y.toNat:Int),.int .i64 n0,.string z,.slice A1 nn c1,.slice A2 tn c2]:=by rw[<-hW1];exact(Blk.new _ _ _).alloc _
 have o1:OwnB (w.heap.size+1) (.slice (some ⟨w.heap.size+1,0,none⟩) 0 0) [] W1:=by
  have:=own_new (w.alloc (.cells #[.int .i64 (y.toNat:Int),.int .i64 n0,.string z,.slice A1 nn c1,.slice A2 tn c2] 51)) 5 1
  rw[hW1]at this
  simpa[OwnB,Lib.byteCells] using this
 have HCH:=ah (hch W1 hb1);have HK1:=ah k1;have HB1:=ah hb1;have HO1:=ah o1
 have HW1:=ah hW1;have HR1:=ah (ra1.below (hb1.mono hB))
 have HR2:=ah (ra2.below (hb1.mono hB))
 obtain⟨E,hEE⟩:=aj (Gr.encLen ⟨(y.toNat:Int),n0,t0,ns,ts⟩);rw[hEE];have HEE:=ah hEE
 have hep:=encLen_parts (y.toNat:Int) n0 t0 ns ts;rw[hEE,<-hzs,hnn]at hep
 have HEP:=ah hep;have HTS:=ah (longs_each hlg);have HTN:=ah htn;have HBW:=ah hB
 clear h hch ra1 ra2 hW1 hb1 k1 o1 h0 hz hEE hep hlg hnn htn hB
 go_enter Tryz.func131,Tryz.ntmps131
 go_upto_region 2 with fail
 rw[HW1.out];clear HW1;obtain⟨d0,d1,d2,d3,d4⟩:=cells5 HK1.out;go_wp2_with fail
 refine HCH.mono ?_;rintro e w2 ⟨rfl,hb2⟩;have HB2:=ah (HB1.trans (hb2.mono HB1.size))
 have HK2:=ah (HK1.below hb2 HK1.lt)
 have HO2:=ah (show OwnB (w.heap.size+1) (.slice (some ⟨w.heap.size+1,0,none⟩) 0 0) [] w2 from own_below HO1.out hb2)
 have HR3:=ah (And.intro (HR1.below (hb2.mono (rV HBW.out HB1.size))) (HR2.below (hb2.mono (rV HBW.out HB1.size))))
 have hlt2:w.heap.size+1<=w2.heap.size:=HK2.lt;clear d0 d1 d2 d3 d4 hb2 HR1 HR2 HO1 HK1
 obtain⟨d0,d1,d2,d3,d4⟩:=cells5 HK2.out;have hw2:=(byte_rules y).2
 go_wp2_with (at_builtin;refine wpList_append_bytes rfl (.tmp 11) (.tmp 15) rfl (w.heap.size+1) (.slice (some ⟨w.heap.size+1,0,none⟩) 0 0) [] w2 rfl HO2.out [y] _ (by simp[Lib.byteCells]) 1 rfl rfl (by decide) (by decide) hlt2 ?_)
 intro v9 w9 ho9 hg9 hb9;obtain⟨A9,c9,hv9⟩:=ho9.form;have hv9:v9=.slice A9 1 c9:=hv9
 subst hv9;have HK9:=ah (HK2.below hb9 (AQ _));have HB9:=ah (HB2.trans (hb9.mono (yN _)))
 have HO9:=ah ho9
 have HR9:=ah (And.intro (HR3.out.1.below (hb9.mono (rV HBW.out (yN _)))) (HR3.out.2.below (hb9.mono (rV HBW.out (yN _)))))
 have hlt9:w.heap.size+1<=w9.heap.size:=HK9.lt
 clear d0 d1 d2 d3 d4 ho9 hg9 hb9 HK2 HO2 HB2 HR3;obtain⟨d0,d1,d2,d3,d4⟩:=cells5 HK9.out
 have HZS:=ah (And.intro hzs htl);by_cases h4:y.toNat<4
 ·have h4i:(y.toNat:Int)<4:=by omega
  have t4:decide ((y.toNat:Int)<4)=true:=rQ h4i
  have hln:=refLaidNum_any (w.heap.size+1) A9 c9 1 (y.toNat:Int) n0 _ w9 HO9.out rfl (by omega) hlt9
  obtain⟨RL,hRL⟩:=aj (if(y.toNat:Int)=1 then 1 else 8)
  rw[hRL]at hln;have HLN:=ah hln;have HRL:=ah hRL;clear hln
  have HE:=ah (show Gr.encLen ⟨(y.toNat:Int),n0,t0,ns,ts⟩=1+(if(y.toNat:Int)=1 then 1 else 8) by
   unfold Gr.encLen;rw[rY h4i];by_cases h1:(y.toNat:Int)=1
   ·rw[rY h1,rY h1]
   rw[rU h1,rU h1])
  rw[hRL,HEE.out]at HE;clear htl hzs hp40 ht40 h4 hRL;go_wp2_with fail
  refine HLN.mono ?_;rintro e w3 ⟨A3,c3,l3,rfl,-,-,hb3⟩
  have HB3:=ah (HB9.trans (hb3.mono (yN _)));clear hb3;go_wp2;go_ret
  exact⟨A3,c3,by rw[HE.out];rfl,HB3.out⟩
 have h4i:(4:Int)<=(y.toNat:Int):=by omega
 have t4:decide ((y.toNat:Int)<4)=false:=rO (by omega)
 by_cases h5:y.toNat=4
 ·have t5:((y.toNat:Int) == 4)=true:=by rw[uw];omega
  have HLA:=ah (refLaid_any (w.heap.size+1) A9 c9 1 z.size z _ w9 HO9.out rfl (by omega) rfl (by omega) hlt9)
  have HE:=ah (show E=1+2+z.size by rw[HEP.out,rU (by omega),rY (by omega)])
  clear htl hzs hp40 ht40 h4 h5;go_wp2_with fail;refine HLA.mono ?_
  rintro e w3 ⟨A3,c3,l3,rfl,-,-,hb3⟩;have HB3:=ah (HB9.trans (hb3.mono (yN _)));clear hb3
  go_wp2;go_ret;exact⟨A3,c3,by rw[HE.out];rfl,HB3.out⟩
 have hnI:(nn:Int)<=40:=Int.ofNat_le.2 hp40;have htI:(tn:Int)<=40:=Int.ofNat_le.2 ht40
 have t5:((y.toNat:Int) == 4)=false:=rX.2 (by omega)
 have h5i:(5:Int)<=(y.toNat:Int):=by omega
 obtain⟨kd,hkd⟩:=aj ((y.toNat:Int) - 4);have hkd1:1<=kd:=by omega
 have hkd4:kd<=4:=by omega
 have hwk:IntKind.i64.wrap kd=kd:=IntWalk.i64_in _ (by omega)
 obtain⟨yc,hyc⟩: ∃yc:UInt8,(nn:Int)+(tn:Int)=(yc.toNat:Int):=⟨UInt8.ofNat (nn+tn),by rw[xM (show nn+tn<UInt8.size from by show nn+tn<256;omega)];omega⟩
 obtain⟨hw0,hw1⟩:=byte_rules yc;obtain⟨L,hL⟩:=aj (if kd=1 then 1 else 8)
 have hL8:L<=8:=by rw[<-hL];split<;>omega
 have HE:=ah (show E=2+nn*L+(ts.map fun t=>2+t.length).sum by rw[HEP.out,rU (by omega),rU (by omega),hkd,hL])
 have HLL:=ah hL;clear htl hzs hL h4 h5
 go_wp2_with (at_builtin;refine wpList_append_bytes rfl (.tmp 33) (.tmp 42) rfl (w.heap.size+1) (.slice A9 1 c9) ([]++[y]) w9 rfl HO9.out [yc] _ (by simp[Lib.byteCells]) 1 rfl rfl (by simp) (by decide) hlt9 ?_)
 intro v8 w8 ho8 hg8 hb8;have hl8: [y,yc].length=2:=rfl;obtain⟨A8,c8,hv8⟩:=ho8.form
 rw[hl8]at hv8;subst hv8
 have H8:=ah (show LaidB (w.heap.size+1) 2 w9 (.returned (.slice A8 2 c8)) w8 from⟨A8,c8,_,rfl,ho8,hl8,hb8⟩)
 have HKV:=ah (fun(W:World) (hb:Below (w.heap.size+1) w9 W)=>cells5 (HK9.below hb (AQ _)))
 have HRA:=ah (fun(W:World) (hb:Below (w.heap.size+1) w9 W)=>(And.intro (HR9.out.1.below (hb.mono (rV HBW.out (yN _)))) (HR9.out.2.below (hb.mono (rV HBW.out (yN _))))))
 have HB8:=ah (show w.heap.size+1<=w9.heap.size/\Below (w.heap.size+1) w9 w8 from⟨hlt9,hb8⟩)
 clear ho8 hg8 hb8 hl8 hw0 hw1 hyc hlt9 hw2 d0 d1 d2 d3 d4 hlt2
 obtain⟨d0,d1,d2,d3,d4⟩:=HKV.out w8 HB8.out.2;go_wp2_with fail
 go_loopg [3,4] nn (fun g v x wr=> ∃(k:Nat) (A':Option Addr) (c':Nat),v=.slice A' (2+k*L) c'/\x=.int .i64 k/\k+g=nn/\LaidB (w.heap.size+1) (2+k*L) w9 (.returned (.slice A' (2+k*L) c')) wr)
 case atStart=>exact⟨0,A8,c8,by rw[BD],rfl,by omega,by rw[BD];exact H8.out⟩
 obtain⟨k,A',c',rfl,rfl,hk,A2,c2,l2,he,ho,hl,hb⟩:=hrel;cases he;have HO:=ah ho
 have HL2:=ah hl;have HB:=ah hb;have HK:=ah hk;clear ho hl hb H8 d0 d1 d2 d3 d4
 obtain⟨d0,d1,d2,d3,d4⟩:=HKV.out wr HB.out;have hkL:k*L<=40*8:=yh (by omega) hL8
 have hBr:w.heap.size+1<=wr.heap.size:=rV HB8.out.1 HB.size;cases gk with
 |succ g=>
  have hkn:k<nn:=by omega
  have hknI:(k:Int)<nn:=by omega
  have pk:(0:Int)<=(k:Int):=by omega
  have tk:((k:Int)).toNat=k:=by omega
  obtain⟨p,o,x,rfl,hlt,hx,hp⟩:=(HRA.out wr HB.out).1.cell hkn;rw[tu]at hx
  obtain⟨v0,hv,rfl⟩:=uP.1 hx;unfold I64 at hp
  have hln:=fun(V:World) (hb:Below wr.heap.size wr V)=>refLaidNum_any (w.heap.size+1) A' c' (2+k*L) kd v0 l2 V (own_below HO.out hb) HL2.out (by omega) (rV hBr hb.size)
  simp only[HLL.out]at hln;have HLNN:=ah hln
  have HBD:=ah (show Below wr.heap.size wr wr.drew from(Below.refl _ wr).drew)
  have HBE:=ah (show Below (w.heap.size+1) wr wr.drew from(Below.refl _ wr).drew)
  have hpl:p<w.heap.size+1:=wS (sZ hlt HBW.out)
  have HKK:Hid (∀X,Below (w.heap.size+1) wr X->X.cell? ⟨w.heap.size,0,none⟩=some (.int .i64 (y.toNat:Int))/\X.cell? ⟨w.heap.size,3,none⟩=some (.slice (some ⟨p,o,none⟩) nn c1)/\X.cell? ⟨p,o+k,none⟩=some (.int .i64 v0)):=fun X hb=>
   ⟨(hb.cell (p:=⟨w.heap.size,0,none⟩) (AQ _)).trans d0,(hb.cell (p:=⟨w.heap.size,3,none⟩) (AQ _)).trans d3,(hb.cell (p:=⟨p,o+k,none⟩) hpl).trans hp⟩
  have HKL:=ah (show 2+k*L+L=2+(k+1)*L by rw[x9,wV])
  clear hkn hlt hx hv hln hkL hBr hk hpl;go_wp2_with fail
  go_region_held3 (fun w'=>w'.cell? ⟨w.heap.size,0,none⟩=some (.int .i64 (y.toNat:Int))/\w'.cell? ⟨w.heap.size,3,none⟩=some (.slice (some ⟨p,o,none⟩) nn c1)/\w'.cell? ⟨p,o+k,none⟩=some (.int .i64 v0)) (first|go_keep|exact HKK.out _ hqv|fail)
   ((first|(go_at_call 179;refine(HLNN.out _ HBD.out).mono ?_;rintro e w7 ⟨A7,c7,l7,rfl,ho7,hl7,hb7⟩;have hqv:Below (w.heap.size+1) wr w7:=HBE.trans hb7;have HX7:=ah (And.intro ho7 hl7);clear ho7 hl7 hb7)|fail))
  have HQ7:=ah (HB.trans hqv);clear hqv d0 d1 d2 d3 d4 hp;go_wp2
  go_roundg g
  case measure=>omega
  refine⟨k+1,A7,c7,by rw[<-HKL.out],rfl,by have:=HK.out;omega, ?_⟩
  rw[<-HKL.out];exact⟨A7,c7,l7,rfl,HX7.out.1,HX7.out.2,HQ7.out⟩
 |zero=>
  obtain rfl:k=nn:=by omega
  obtain⟨M,hM⟩:=aj (2+k*L);have hMle:M<=322:=by omega
  rw[hM]at HO HL2 HE⊢
  have H9:=ah (show LaidB (w.heap.size+1) M w9 (.returned (.slice A' M c')) wr from⟨A',c',l2,rfl,HO.out,HL2.out,HB.out⟩)
  clear hkL hk hM HO HL2;go_wp2_with fail
  go_loopg [3,5] tn (fun g v x wq=> ∃(j:Nat) (A':Option Addr) (c':Nat),v=.slice A' (M+((ts.take j).map fun t=>2+t.length).sum) c'/\x=.int .i64 j/\j+g=tn/\LaidB (w.heap.size+1) (M+((ts.take j).map fun t=>2+t.length).sum) w9 (.returned (.slice A' (M+((ts.take j).map fun t=>2+t.length).sum) c')) wq)
  case atStart=>exact⟨0,A',c',rfl,rfl,by omega,H9.out⟩
  obtain⟨j,A4,c4,rfl,rfl,hj,A5,c5,l5,he,ho,hl,hb⟩:=hrel;cases he
  have hsum:((ts.take j).map fun t=>2+t.length).sum<=1002*40:=by
   have h1:=sum_le (l:=ts.take j) (fun t ht=>HTS.out t (xg ht))
   have h2:(ts.take j).length<=40:=by rw[tK];have:=HTN.out;omega
   exact rV h1 (wF _ h2)
  obtain⟨T,hT⟩: ∃T,((ts.take j).map fun t=>2+t.length).sum=T:=⟨_,rfl⟩
  rw[hT]at ho hl hsum⊢;have HO2:=ah ho;have HL5:=ah hl;have HB5:=ah hb;have HJ:=ah hj
  have HT:=ah hT;clear ho hl hb H9 d0 d1 d2 d3 d4 hT
  obtain⟨d0,d1,d2,d3,d4⟩:=HKV.out _ HB5.out;cases gk with
  |succ g=>
   have hkn:j<tn:=by omega
   have hknI:(j:Int)<tn:=by omega
   have pk:(0:Int)<=(j:Int):=by omega
   have tk:((j:Int)).toNat=j:=by omega
   obtain⟨p,o,x,rfl,hlt,hx,hp⟩:=(HRA.out _ HB5.out).2.cell hkn;rw[tu]at hx
   obtain⟨v0,hv,rfl⟩:=uP.1 hx;unfold ST at hp
   obtain⟨zy,hzy⟩:=aj (⟨v0.toArray⟩:ByteArray);rw[hzy]at hp
   have hzl:zy.size=v0.length:=by rw[<-hzy];exact size_list _
   have hyl:=HTS.out v0 (sK hv)
   have hln:=refLaid_any (w.heap.size+1) A4 c4 (M+T) zy.size zy l5 _ HO2.out HL5.out (by omega) rfl (by omega) (rV HB8.out.1 HB5.size)
   have HLNN:=ah hln
   have HSM:=ah (show M+T+2+zy.size=M+((ts.take (j+1)).map fun t=>2+t.length).sum by rw[sum_take hv,HT.out,hzl];omega)
   clear hkn hlt hx hv hln hsum hj hzy hzl hyl;go_wp2_with fail;refine HLNN.mono ?_
   rintro e w7 ⟨A7,c7,l7,rfl,ho7,hl7,hb7⟩
   have HX7:=ah (And.intro ho7 (And.intro hl7 (HB5.trans hb7)))
   clear ho7 hl7 hb7 d0 d1 d2 d3 d4 hp;go_wp2
   go_roundg g
   case measure=>omega
   refine⟨j+1,A7,c7,by rw[<-HSM.out],rfl,by have:=HJ.out;omega, ?_⟩
   rw[<-HSM.out];exact⟨A7,c7,l7,rfl,HX7.out.1,HX7.out.2.1,HX7.out.2.2⟩
  |zero=>
   obtain rfl:j=tn:=by omega
   have hfin:ts.take j=ts:=sG (by rw[HTN.out];exact rM _)
   have HFE:=ah (show E=M+T by rw[HE.out,<-HT.out,hfin])
   have HBF:=ah (HB9.trans (HB5.mono (yN _)));clear hj hfin hsum;go_wp2;go_ret
   exact⟨A4,c4,by rw[HFE.out];rfl,HBF.out⟩
end Go.Proofs.YtanlehkalkafdaaGreatDoor
