/- Contracts and plain laws,part 10. -/
import Derived.Test.YtanlehkalkafdaaGreatDoorUR09
set_option maxHeartbeats 64000000
set_option maxRecDepth 1000000
set_option linter.all false
namespace Go.Proofs.YtanlehkalkafdaaGreatDoor
open Go.RowKit
def elemV:Option (List UInt8×List UInt8)->Value
 |none=> .tuple #[.string ⟨#[]⟩,.string ⟨#[]⟩,.int .i64 220]
 |some (a,r)=> .tuple #[.string ⟨a.toArray⟩,.string ⟨r.toArray⟩,.int .i64 0]
structure ElmRel (s:ByteArray) (R:Option (List UInt8×List UInt8)) (w:World) (k:Nat) (acc:List UInt8) (wx:World):Prop where
 res:Cel.elem (s.data.toList.drop k) acc=R
 len:acc.length<=k
 bel:Below w.heap.size w wx
 bld:Bld w.heap.size w.heap.size acc wx
theorem elem_stop {d:UInt8} {l b:List UInt8} (h1:d≠92) (h2:d≠59):Cel.elem (92 :: d :: l) b=none:=by
 rw[Cel.elem,rU (by decide),rY rfl,rU (fun h=>h.elim h1 h2)]
theorem element_any (s:ByteArray) (w:World) (hs:s.size<=1073741823):
  Calls Tryz.prog 209 #[.string s] w fun e w'=>e=.returned (elemV (Cel.elem s.data.toList []))/\Below w.heap.size w w':=by
 obtain⟨R,hR⟩:=aj (Cel.elem s.data.toList []);rw[hR];have HR:=ah hR
 have hsi:(s.size:Int)<=1073741823:=by omega
 clear hR;go_enter Tryz.func209,Tryz.ntmps209;go_wp2_with fail
 go_loopg [6] s.size (fun g x wx=> ∃(k:Nat) (acc:List UInt8),k+g=s.size/\x=.int .i64 k/\ElmRel s R w k acc wx)
 case atStart=>exact⟨0,[],by omega,rfl,⟨by rw[vX];exact HR.out,by simp,(Below.refl _ w).alloc (rM _) _,Bld.fresh w⟩⟩
 obtain⟨k,acc,hk,rfl,hrel⟩:=hrel;have hlen:=hrel.len;have hsz:=hrel.bel.size
 have HQ:=ah hrel;clear hrel;cases gk with
 |zero=>
  obtain rfl:k=s.size:=by omega
  have hr:R=none:=by
   rw[<-HQ.res,uq (by rw[<-Lib.size_eq];omega)]
   rfl
  have HRR:=ah hr;clear hr;go_wp2
  go_ret3
  exact⟨by rw[HRR.out];rfl,HQ.bel⟩
 |succ g=>
  have hlt:k<s.size:=by omega
  have hlti:(k:Int)<s.size:=by omega
  obtain⟨c,hc⟩:=aj (s[k]'hlt);have hdr:=drop_at' hlt;rw[hc]at hdr;have hres:=HQ.res
  rw[hdr]at hres;have HKG:=ah hk;have hcb:=byte_le c;by_cases h59:c=59
  ·subst h59
   have hr:R=some (acc,s.data.toList.drop (k+1)):=by rw[<-hres,Cel.elem_end]
   have hx:=extract_drop s (k+1);have HRR:=ah hr;have HX:=ah hx
   have hbd:Below wr.heap.size wr wr.drew:=below_drewN (Below.refl _ _) 1
   have hbld:Bld w.heap.size w.heap.size acc wr.drew:=HQ.bld.below hbd
   have hszd:w.heap.size<=wr.drew.heap.size:=hsz;have HB0:=ah (HQ.bel.trans (hbd.mono hsz))
   have hwr:IntKind.i64.wrap ((k:Int)+1)=(k:Int)+1:=IntWalk.i64_in _ (by omega)
   have hkn:((k:Int)+1).toNat=k+1:=by omega
   clear hres hdr hr hx hk;go_wp2_with fail
   go_region_with (go_at_call 55;refine(bld_string w.heap.size w.heap.size acc _ hbld hszd).mono ?_;rintro e w2 ⟨rfl,hbld2,hbel2,-⟩)
   all_goals
    go_wp2
    go_ret3
    exact⟨by rw[HRR.out,elemV,<-HX.out];rfl,HB0.trans hbel2⟩
  by_cases h92:c=92
  ·subst h92
   by_cases hend:k+1=s.size
   ·have hr:R=none:=by
     rw[<-hres,uq (by rw[<-Lib.size_eq];omega)]
     rfl
    have HRR:=ah hr;have t1:decide ((s.size:Int)<=(k:Int)+1)=true:=rQ (by omega)
    have t1i:(s.size:Int)<=(k:Int)+1:=by omega
    clear hres hdr hr hk;go_wp2
    go_ret3
    exact⟨by rw[HRR.out];rfl,HQ.bel⟩
   have hlt1:k+1<s.size:=by omega
   have t1:decide ((s.size:Int)<=(k:Int)+1)=false:=rO (by omega)
   have t1i:(k:Int)+1<s.size:=by omega
   obtain⟨d,hd⟩:=aj (s[k+1]'hlt1);have hdr2:=drop_at' hlt1;rw[hd]at hdr2
   rw[hdr2]at hres;have hdb:=byte_le d;by_cases he:d=92\/d=59
   ·rw[Cel.elem_esc he]at hres
    have HN:=ah hres;have HBL:=ah HQ.bld
    rcases he with rfl|rfl
    ·clear hres hdr hdr2 hk hend
     go_wp2_with fail
     refine(bld_byte w.heap.size w.heap.size acc _ _ HBL.out (by omega) (by omega) (by omega) hsz).mono ?_
     rintro e w2 ⟨rfl,hbld2,hbel2,-⟩
     have HR2:Hid (ElmRel s R w (k+2) (acc++[92]) w2):=⟨HN.out,by rw[rP,uh];omega,HQ.bel.trans hbel2,hbld2⟩
     clear hbld2 hbel2;go_wp2
     go_roundg (g - 1)
     case measure=>omega
     exact⟨k+2,_,by have:=HKG.out;omega,int_eq' (by omega),HR2.out⟩
    clear hres hdr hdr2 hk hend;go_wp2_with fail
    refine(bld_byte w.heap.size w.heap.size acc _ _ HBL.out (by omega) (by omega) (by omega) hsz).mono ?_
    rintro e w2 ⟨rfl,hbld2,hbel2,-⟩
    have HR2:Hid (ElmRel s R w (k+2) (acc++[59]) w2):=⟨HN.out,by rw[rP,uh];omega,HQ.bel.trans hbel2,hbld2⟩
    clear hbld2 hbel2;go_wp2
    go_roundg (g - 1)
    case measure=>omega
    exact⟨k+2,_,by have:=HKG.out;omega,int_eq' (by omega),HR2.out⟩
   simp only[yS]at he;have hr:R=none:=by rw[<-hres,elem_stop he.1 he.2]
   have HRR:=ah hr
   have t3:(((d.toNat:Nat):Int) !=92)=true:=by rw[bne,bq (k:=92) (n:=92) rfl (rX.2 he.1)];rfl
   have t4:(((d.toNat:Nat):Int) !=59)=true:=by rw[bne,bq (k:=59) (n:=59) rfl (rX.2 he.2)];rfl
   clear hres hdr hdr2 hr hk hend he;go_wp2
   go_ret3
   exact⟨by rw[HRR.out];rfl,HQ.bel⟩
  have t59:(((c.toNat:Nat):Int) == 59)=false:=bq (k:=59) rfl (rX.2 h59)
  have t92:(((c.toNat:Nat):Int) == 92)=false:=bq (k:=92) rfl (rX.2 h92)
  rw[Cel.elem_cons h59 h92]at hres;have HN:=ah hres;have HBL:=ah HQ.bld
  clear hres hdr hk h59 h92;go_wp2_with fail
  refine(bld_byte w.heap.size w.heap.size acc _ _ HBL.out (by omega) (by omega) (by omega) hsz).mono ?_
  rintro e w2 ⟨rfl,hbld2,hbel2,-⟩;rw[byte_back]at hbld2
  have HR2:Hid (ElmRel s R w (k+1) (acc++[c]) w2):=⟨HN.out,by rw[rP,uh];omega,HQ.bel.trans hbel2,hbld2⟩
  clear hbld2 hbel2;go_wp2
  go_roundg g
  case measure=>omega
  exact⟨k+1,_,by have:=HKG.out;omega,int_eq' (by omega),HR2.out⟩
theorem numS_len (k n:Int) (hn:Cel.In64 n):(Cel.numS k n).length<=24:=by
 have h1:=itoa_len20 hn.1 hn.2;have h2:=fmt_len (Cel.u64 n);unfold Cel.numS
 repeat' split
 ·omega
 ·exact h2
 ·decide
 decide
theorem numsWrong_all {k:Int}: ∀{l:List Int},Cel.numsWrong k l=0-> ∀n∈l,Cel.numWrong k n=0
 |[],_,n,h=>by cases h
 |m :: r,h,n,hn=>by
  obtain⟨h1,h2⟩:=Cel.numsWrong_cons h
  rcases uD.1 hn with rfl|hn
  ·exact h1
  exact numsWrong_all h2 n hn
theorem longs_all {l:List Cel.L} (h:Cel.longs l=false): ∀t∈l,t.length<=1000:=by
 intro t ht;unfold Cel.longs at h;rw[yX]at h;have:=h t ht;simp at this;exact this
theorem cls_fin: ∀j:Fin 4,(({data:= #[98,105,102,115]}:ByteArray).data.toList)[j.val]?=some (Cel.cls ((j.val:Int)+1)):=by decide+kernel
theorem cls_at (j:Nat) (h:j<4) (h':j<({data:= #[98,105,102,115]}:ByteArray).size):({data:= #[98,105,102,115]}:ByteArray)[j]'h'=Cel.cls ((j:Int)+1):=by
 have e:=cls_fin ⟨j,h⟩;have e2:=at_extract (s:={data:= #[98,105,102,115]}) h';rw[e2]at e
 exact tN e
structure PrtRel (B:Nat) (w:World) (A C:List UInt8) (n:Nat) (acc:List UInt8) (wx:World):Prop where
 text:acc=A++C
 len:acc.length<=n
 bel:Below B w wx
 bld:Bld B B acc wx
theorem PrtRel.next {B:Nat} {w:World} {A C C':List UInt8} {n n':Nat} {acc x:List UInt8} {wx wy wz:World} (h:PrtRel B w A C n acc wx) (hc:C'=C++x) (hl:n+x.length<=n') (h1:Below B wx wy) (h2:Below B wy wz) (hb:Bld B B (acc++x) wz):PrtRel B w A C' n' (acc++x) wz:=
 ⟨by rw[h.text,hc,sV],by rw[rP];have:=h.len;omega,(h.bel.trans h1).trans h2,hb⟩
theorem cat59 {E:ByteArray} {l:List UInt8} (h:E.data.toList=l):(E ++⟨#[59]⟩).data.toList=l++[59]:=by
 rw[yA,xw,h]
theorem cat59_size (E:ByteArray):(E ++⟨#[59]⟩).size=E.size+1:=by
 rw[Az];rfl
theorem flat_take {α:Type} {l:List α} {k:Nat} {y:α} (h:l[k]?=some y) (f:α->List UInt8):(l.take (k+1)).flatMap f=(l.take k).flatMap f++f y:=by
 obtain⟨hk,he⟩:=rZ.1 h;rw[vC hk,vM,he];simp
theorem print_any (B:Nat) (u:Value) (v:Cel.V) (w:World) (h:VIn w B u v) (hB:B<=w.heap.size) (hL:Laid w):
  Calls Tryz.prog 57 #[u] w fun e w'=>e=.returned (.tuple #[.string ⟨(Cel.printR v).1.toArray⟩,.int .i64 ((Cel.printR v).2:Nat)])/\Below w.heap.size w w':=by
 have hch:=fun(W:World) (hb:Below w.heap.size w W)=>check_any B u v W (h.below (hb.mono hB)) (rV hB hb.size)
 obtain⟨A1,c1,A2,c2,rfl,ra1,ra2⟩:=h.ex;have hnum:=h.num;have hnums:=h.nums;have hnl:=h.nl
 have hsl:=h.sl;clear h;obtain⟨R,hR⟩:=aj (Cel.printR v);rw[hR];unfold Cel.printR at hR
 have hcp:=fun h=>Cel.check_parts (v:=v) h
 obtain⟨cv,hcv⟩:=aj (Cel.check v);rw[hcv]at hch hR hcp
 have hpr:Cel.print v=Cel.letter v.kind++[58] ++(if v.kind<4 then Cel.numS v.kind v.num else[])++v.text++v.nums.flatMap (Cel.numE (v.kind - 4))++v.texts.flatMap Cel.textE:=rfl
 obtain⟨pv,hpv⟩:=aj (Cel.print v);rw[hpv]at hpr hR;clear hcv hpv
 obtain⟨k0,n0,t0,ns,ts⟩:=v;simp only at ra1 ra2 hnum hnums hch hcp hpr hnl hsl⊢
 obtain⟨nn,hnn⟩:=aj ns.length;obtain⟨tn,htn⟩:=aj ts.length
 obtain⟨z,hz⟩:=aj (⟨t0.toArray⟩:ByteArray)
 have hzs:z.size=t0.length:=by rw[<-hz];exact size_list _
 have hzd:z.data.toList=t0:=by rw[<-hz]
 rw[hnn]at ra1 hch hnl⊢;rw[htn]at ra2 hch hsl⊢;rw[hz]at hch⊢
 obtain⟨W1,hW1⟩:=aj (w.alloc (.cells #[.int .i64 k0,.int .i64 n0,.string z,.slice A1 nn c1,.slice A2 tn c2] 51))
 have hb1:Below w.heap.size w W1:=by rw[<-hW1];exact(Below.refl _ w).alloc (rM _) _
 have k1:Blk W1 w.heap.size 51 #[.int .i64 k0,.int .i64 n0,.string z,.slice A1 nn c1,.slice A2 tn c2]:=by rw[<-hW1];exact Blk.new _ _ _
 have RA1:=ah (ra1.below (hb1.mono hB));have RA2:=ah (ra2.below (hb1.mono hB))
 have HB1:=ah hb1;have HW1:=ah hW1;have HCH:=ah (hch W1 hb1);have HNN:=ah hnn
 have HTN:=ah htn;have HNUM:=ah hnum;have HNUMS:=ah hnums;have HKB:=ah k1;have HPR:=ah hpr
 have HR:=ah hR;have HCP:=ah hcp;have HZS:=ah hzs;have HZD:=ah hzd;have HL:=ah hL
 obtain⟨a0,a1,a2,a3,a4,-⟩:=val_cells k1
 clear ra1 ra2 hnn htn hz k1 hb1 hW1 hch hnum hnums hpr hR hcp hzs hzd hL
 have hu:=undef_no;go_enter Tryz.func57,Tryz.ntmps57
 go_upto_region 1 with fail
 rw[HW1.out];clear HW1;go_wp2_with fail;refine HCH.mono ?_;rintro e w2 ⟨rfl,hb2⟩
 have HB2:=ah (HB1.trans (hb2.mono HB1.size));have HK2:=ah (HKB.below hb2 HKB.lt)
 have hwz:=HB1.size;have RA1':=ah (RA1.out.below (hb2.mono (rV hB hwz)))
 have RA2':=ah (RA2.out.below (hb2.mono (rV hB hwz)))
 clear hb2 a0 a1 a2 a3 a4 HCH RA1 RA2 HKB;have hsz2:=HB2.size
 obtain⟨a0,a1,a2,a3,a4,-⟩:=val_cells HK2.out;by_cases hc0:cv=0
 case neg=>
  have hr:R=([],cv):=by rw[<-HR.out,rU hc0]
  have HRR:=ah hr;have t0:((cv:Int) !=0)=true:=by rw[tH];omega
  clear hr hc0;go_wp2
  go_ret2
  exact⟨by rw[HRR.out];rfl,HB2.out⟩
 subst hc0;have hr:R=(pv,0):=by rw[<-HR.out,rY rfl]
 have HRR:=ah hr;obtain⟨p1,p2,p3,p4,p5,p6,p7,p8⟩:=HCP.out rfl;unfold Cel.Unused at p3
 simp only[yS]at p3;obtain⟨u1,u2,u3,u4⟩:=p3
 obtain⟨m,hm⟩: ∃m:Nat,(m:Int)=Cel.cbase k0 - 1:=⟨(Cel.cbase k0 - 1).toNat,by unfold Cel.cbase;split<;>omega⟩
 have hm4:m<4:=by unfold Cel.cbase at hm;split at hm<;>omega
 have hmi:(m:Int)<4:=by omega
 have hmod:(k0 - 1).tmod 4=(m:Int):=by
  rw[BH (by omega),hm]
  unfold Cel.cbase
  split<;>omega
 have hcl:=fun h=>cls_at m hm4 h
 have hm1:(m:Int)+1=Cel.cbase k0:=by omega
 rw[hm1]at hcl;obtain⟨c,hc⟩:=aj (Cel.cls (Cel.cbase k0));rw[hc]at hcl
 have hlt:Cel.letter k0=if 4<k0 then[c,91,93] else[c]:=by
  unfold Cel.letter;rw[<-hc];unfold Cel.cbase
  split<;>rfl
 have HLT:=ah hlt;have hcb:=byte_le c;have hNL:=HNN.out;have hTL:=HTN.out;rw[hNL]at p4
 rw[hTL]at p5;have HU:=ah (⟨u1,u2,u3,u4⟩:_/\_/\_/\_);have HP6:=ah p6;have HP7:=ah p7
 have HP8:=ah p8;have HM1:=ah hm1;have p4i:(nn:Int)<=40:=by omega
 have p5i:(tn:Int)<=40:=by omega
 clear hr HR u1 u2 u3 u4 p6 p7 p8 hm hm1 hlt hNL hTL hc HCP
 obtain⟨W3,hW3⟩:=aj (w2.alloc (.cells #[.pointer none,.slice none 0 0] 106))
 have hbl0:=Bld.fresh w2
 have hbl1:Below w2.heap.size w2 (w2.alloc _):=(Below.refl _ w2).alloc (rM _) (.cells #[.pointer none,.slice none 0 0] 106)
 rw[hW3]at hbl0 hbl1;have hsz3:=hbl1.size;have hkl:=HK2.lt
 have HK3:=ah (HK2.below hbl1 hkl);have HW3:=ah hW3;have HB3:=ah hbl1;have HD3:=ah hbl0
 clear hW3 hbl0 hbl1
 go_upto_region 5 with fail
 rw[HW3.out];clear HW3 a0 a1 a2 a3 a4;obtain⟨a0,a1,a2,a3,a4,-⟩:=val_cells HK3.out
 go_wp2_with fail
 refine(bld_byte w2.heap.size w2.heap.size [] (c.toNat:Int) W3 HD3.out (by omega) (by omega) (by simp) hsz3).mono ?_
 rintro e w4 ⟨rfl,hbld4,hbel4,-⟩;rw[byte_back,tY]at hbld4;have HB4:=ah (HB3.trans hbel4)
 have HD4:=ah hbld4;have hsz4:=HB4.size;clear hbld4 hbel4 a0 a1 a2 a3 a4 hcl hcb hmod
 obtain⟨a0,a1,a2,a3,a4,-⟩:=val_cells (HK2.below HB4.out hkl);by_cases h4:4<k0
 ·have d4:decide (4<k0)=true:=rQ h4
  have d44:(k0 == 4)=false:=rX.2 (by omega)
  have d3:decide (k0<4)=false:=rO (by omega)
  have h4i:5<=k0:=by omega
  have hn0:n0=0:=by apply Decidable.not_not.1;intro e;exact HU.out.1 ⟨e,by omega⟩
  have ht0:t0=[]:=by apply Decidable.not_not.1;intro e;exact HU.out.2.1 ⟨e,by omega⟩
  have hp:=HPR.out;rw[rU (show¬k0<4 by omega),ht0,HLT.out,rY h4]at hp
  simp only[tC]at hp;have HP:=ah hp
  have hmk0:(m:Int)+1=k0 - 4:=by rw[HM1.out];unfold Cel.cbase;rw[rY h4]
  have HMK:=ah hmk0;clear hn0 ht0 hp hmk0;go_wp2_with fail
  refine(bld_str w2.heap.size w2.heap.size [c] _ w4 HD4.out (by decide) (by simp) hsz4).mono ?_
  rintro e w5 ⟨rfl,hbld5,hbel5,-⟩;have HB5:=ah (HB4.trans hbel5);have HD5:=ah hbld5
  have hsz5:=HB5.size;clear hbld5 hbel5 a0 a1 a2 a3 a4
  obtain⟨a0,a1,a2,a3,a4,-⟩:=val_cells (HK2.below HB5.out hkl);go_wp2_with fail
  refine(bld_str w2.heap.size w2.heap.size _ _ w5 HD5.out (by decide) (by simp) hsz5).mono ?_
  rintro e w6 ⟨rfl,hbld6,hbel6,-⟩;have HB6:=ah (HB5.trans hbel6)
  have HD6:Hid (Bld w2.heap.size w2.heap.size ([c,91,93]++[58]) w6):=hbld6
  have hsz6:=HB6.size;clear hbld6 hbel6 a0 a1 a2 a3 a4
  obtain⟨a0,a1,a2,a3,a4,-⟩:=val_cells (HK2.below HB6.out hkl);go_wp2_with fail
  clear a0 a1 a2 a3 a4
  go_loopg [48] nn (fun g x wr=> ∃(k:Nat) (acc:List UInt8),x=.int .i64 k/\k+g=nn/\PrtRel w2.heap.size w2 ([c,91,93]++[58]) ((ns.take k).flatMap (Cel.numE (k0 - 4))) (4+25*k) acc wr)
  case atStart=>exact⟨0,_,rfl,by omega,⟨by simp,by simp,HB6.out,HD6.out⟩⟩
  obtain⟨k,acc,rfl,hk,hrel⟩:=hrel;have hlen:=hrel.len;have hszr:=hrel.bel.size
  have HQ:=ah hrel;have HK:=ah hk;clear hrel;cases gk with
  |zero=>
   obtain rfl:k=nn:=by omega
   have hfull:(ns.take k).flatMap (Cel.numE (k0 - 4))=ns.flatMap (Cel.numE (k0 - 4)):=by rw[sG (by have:=HNN.out;omega)]
   have hq:=HQ.out;rw[hfull]at hq;have HQ2:=ah hq
   obtain⟨a0,a1,a2,a3,a4,-⟩:=val_cells (HK2.below HQ.bel hkl);clear hfull hq hk HQ
   go_wp2_with fail;clear a0 a1 a2 a3 a4
   go_loopg [62] tn (fun g x wr=> ∃(j:Nat) (acc:List UInt8),x=.int .i64 j/\j+g=tn/\PrtRel w2.heap.size w2 ([c,91,93]++[58]++ns.flatMap (Cel.numE (k0 - 4))) ((ts.take j).flatMap Cel.textE) (1100+2001*j) acc wr)
   case atStart=>exact⟨0,acc,rfl,by omega,⟨by rw[HQ2.text];simp,by omega,HQ2.bel,HQ2.bld⟩⟩
   clear hlen hszr;obtain⟨j,acc,rfl,hj,hrel⟩:=hrel;have hlen:=hrel.len
   have hszr:=hrel.bel.size;have HQ:=ah hrel;have HJ:=ah hj;clear hrel;cases gk with
   |zero=>
    obtain rfl:j=tn:=by omega
    have hfin:acc=pv:=by
     rw[HQ.text,HP.out,sG (by have:=HTN.out;omega)]
    have HF:=ah hfin;clear hfin hj;go_wp2_with fail
    refine(bld_string w2.heap.size w2.heap.size _ _ HQ.bld hszr).mono ?_
    rintro e w7 ⟨rfl,hbld7,hbel7,-⟩;go_wp2
    go_ret2
    exact⟨by rw[HRR.out,<-HF.out];rfl,HB2.trans ((HQ.bel.trans hbel7).mono hsz2)⟩
   |succ g=>
    have hjn:j<tn:=by omega
    have hjnI:(j:Int)<tn:=by omega
    have hjl:j<ts.length:=by rw[HTN.out];exact hjn
    obtain⟨p,o,x,rfl,-,hx,hp⟩:=(RA2'.out.below (HQ.bel.mono (by omega))).cell hjn
    rw[tu,ay hjl]at hx;obtain rfl:=(tN hx).symm;obtain⟨y,hy⟩:=aj (ts[j]);rw[hy]at hp
    unfold ST at hp;have hyj:ts[j]?=some y:=by rw[ay hjl,hy]
    have hyl:y.length<=1000:=longs_all HP7.out y (sK hyj)
    have hcall:=fun(W:World) (hb:Below w2.heap.size w2 W)=>celEscape_any y W (by omega) (HL.below (HB2.trans (hb.mono hsz2)))
    have hel:=escT_len y;obtain⟨zy,hzy⟩:=aj (⟨y.toArray⟩:ByteArray)
    obtain⟨E,hE⟩:=aj (⟨(Cel.escT y).toArray⟩:ByteArray)
    have hEs:E.size=(Cel.escT y).length:=by rw[<-hE];exact size_list _
    have hEd:E.data.toList=Cel.escT y:=by rw[<-hE]
    rw[hzy]at hp hcall;rw[hE]at hcall;have HC:=ah (hcall _ HQ.bel);have HEd:=ah hEd
    have hEl:E.size<=2000:=by omega
    have HEl:=ah (show(Cel.escT y).length<=2000 by omega)
    have hfl:=ah (flat_take hyj Cel.textE)
    clear hx hj hjl hy hyj hyl hcall hel hzy hE hEs hEd;go_wp2_with fail;refine HC.mono ?_
    rintro e w7 ⟨rfl,hb7⟩;have HB7:=ah hb7;have hbld:=HQ.bld.below hb7;have HD7:=ah hbld
    have hsz7:=rV hszr hb7.size;clear hb7 hbld;go_wp2_with fail
    have q1:(E ++⟨#[59]⟩).size<1073741824:=by rw[cat59_size];omega
    have q2:acc.length<1073741824:=by omega
    have q3:=bld_str w2.heap.size w2.heap.size acc (E ++⟨#[59]⟩) w7 HD7.out q1 q2 hsz7
    clear q1 q2;refine q3.mono ?_;rintro e w8 ⟨rfl,hbld8,hbel8,-⟩
    rw[cat59 HEd.out]at hbld8;have hel2:=HEl.out
    have HN:=ah (HQ.next (n':=1100+2001*(j+1)) (x:=Cel.textE y) hfl.out (by unfold Cel.textE;rw[rP,uh];omega) (HB7.mono hszr) hbel8 hbld8)
    clear hel2 q3;clear hbld8 hbel8;go_wp2
    go_roundg g
    case measure=>omega
    exact⟨j+1,_,int_eq' (by omega),by have:=HJ.out;omega,HN.out⟩
  |succ g=>
   have hkn:k<nn:=by omega
   have hknI:(k:Int)<nn:=by omega
   have hkl':k<ns.length:=by rw[HNN.out];exact hkn
   obtain⟨p,o,x,rfl,-,hx,hp⟩:=(RA1'.out.below (HQ.bel.mono (by omega))).cell hkn
   rw[tu,ay hkl']at hx;obtain rfl:=(tN hx).symm;obtain⟨y,hy⟩:=aj (ns[k]);rw[hy]at hp
   unfold I64 at hp;have hyk:ns[k]?=some y:=by rw[ay hkl',hy]
   have hyi:Cel.In64 y:=HNUMS.out y (sK hyk)
   have hk8:k0≠8:=fun e=>HU.out.2.2.1 ⟨fun h=>by rw[h]at hkl';simp at hkl',.inr e⟩
   have hw8:=HP8.out;rw[rU (show¬k0<4 by omega)]at hw8
   have hyw:=numsWrong_all hw8 y (sK hyk)
   have hcall:=fun(W:World) (hb:Below w2.heap.size w2 W)=>printNum_any (k0 - 4) y W (by omega) (by omega) hyi hyw (HL.below (HB2.trans (hb.mono hsz2)))
   have hel:=numS_len (k0 - 4) y hyi
   obtain⟨E,hE⟩:=aj (⟨(Cel.numS (k0 - 4) y).toArray⟩:ByteArray)
   have hEs:E.size=(Cel.numS (k0 - 4) y).length:=by rw[<-hE];exact size_list _
   have hEd:E.data.toList=Cel.numS (k0 - 4) y:=by rw[<-hE]
   have hmi2:(m:Int)<3:=by have:=HMK.out;omega
   rw[hE,<-HMK.out]at hcall;have HC:=ah (hcall _ HQ.bel);have HEd:=ah hEd
   have hEl:E.size<=24:=by omega
   have HEl:=ah (show(Cel.numS (k0 - 4) y).length<=24 by omega)
   have hfl:=ah (flat_take hyk (Cel.numE (k0 - 4)))
   clear hx hk hkl' hy hyk hyi hk8 hw8 hyw hcall hel hE hEs hEd;go_wp2_with fail
   refine HC.mono ?_;rintro e w7 ⟨rfl,hb7⟩;have HB7:=ah hb7;have hbld:=HQ.bld.below hb7
   have HD7:=ah hbld;have hsz7:=rV hszr hb7.size;clear hb7 hbld;go_wp2_with fail
   have q1:(E ++⟨#[59]⟩).size<1073741824:=by rw[cat59_size];omega
   have q2:acc.length<1073741824:=by omega
   have q3:=bld_str w2.heap.size w2.heap.size acc (E ++⟨#[59]⟩) w7 HD7.out q1 q2 hsz7
   clear q1 q2;refine q3.mono ?_;rintro e w8 ⟨rfl,hbld8,hbel8,-⟩
   rw[cat59 HEd.out]at hbld8;have hel2:=HEl.out
   have HN:=ah (HQ.next (n':=4+25*(k+1)) (x:=Cel.numE (k0 - 4) y) hfl.out (by unfold Cel.numE;rw[rP,uh];omega) (HB7.mono hszr) hbel8 hbld8)
   clear hel2 q3;clear hbld8 hbel8;go_wp2
   go_roundg g
   case measure=>omega
   exact⟨k+1,_,int_eq' (by omega),by have:=HK.out;omega,HN.out⟩
 have d4:decide (4<k0)=false:=rO h4;have h4i:k0<=4:=by omega
 have hns:ns=[]:=by apply Decidable.not_not.1;intro e;exact HU.out.2.2.1 ⟨e,.inl (by omega)⟩
 have hts:ts=[]:=by apply Decidable.not_not.1;intro e;exact HU.out.2.2.2 ⟨e,by omega⟩
 subst hns hts;obtain rfl:nn=0:=HNN.symm;obtain rfl:tn=0:=HTN.symm;have hp:=HPR.out
 rw[HLT.out,rU h4,wM,wM,tC,tC]at hp;go_wp2_with fail
 refine(bld_str w2.heap.size w2.heap.size [c] _ w4 HD4.out (by decide) (by simp) hsz4).mono ?_
 rintro e w6 ⟨rfl,hbld6,hbel6,-⟩;have HB6:=ah (HB4.trans hbel6)
 have HD6:Hid (Bld w2.heap.size w2.heap.size ([c]++[58]) w6):=hbld6;have hsz6:=HB6.size
 clear hbld6 hbel6 a0 a1 a2 a3 a4
 obtain⟨a0,a1,a2,a3,a4,-⟩:=val_cells (HK2.below HB6.out hkl);by_cases h44:k0=4
 ·subst h44
  rw[rU (show¬(4:Int)<4 by omega),tC]at hp
  have HP:=ah hp;have hzl:z.size<1073741824:=by have:=HZS.out;have:=HP6.out;omega
  clear hp h4 d4;go_wp2_with fail
  refine(bld_str w2.heap.size w2.heap.size _ z w6 HD6.out hzl (by simp) hsz6).mono ?_
  rintro e w7 ⟨rfl,hbld7,hbel7,-⟩;rw[HZD.out,<-HP.out]at hbld7
  have HB7:=ah (HB6.trans hbel7);have HD7:=ah hbld7;have hsz7:=HB7.size
  clear hbld7 hbel7 a0 a1 a2 a3 a4
  obtain⟨a0,a1,a2,a3,a4,-⟩:=val_cells (HK2.below HB7.out hkl);go_wp2_with fail
  clear a0 a1 a2 a3 a4
  go_loopg [48] 0 (fun g x wr=>x=.int .i64 0/\w7=wr/\g=0)
  case atStart=>exact⟨rfl,rfl,rfl⟩
  obtain⟨rfl,rfl,hg0⟩:=hrel;cases gk with
  |succ g=>omega
  |zero=>
   obtain⟨a0,a1,a2,a3,a4,-⟩:=val_cells (HK2.below HB7.out hkl);go_wp2_with fail
   clear a0 a1 a2 a3 a4
   go_loopg [62] 0 (fun g x wr=>x=.int .i64 0/\w7=wr/\g=0)
   case atStart=>exact⟨rfl,rfl,rfl⟩
   obtain⟨rfl,rfl,hg0⟩:=hrel;cases gk with
   |succ g=>omega
   |zero=>
    go_wp2_with fail
    refine(bld_string w2.heap.size w2.heap.size _ _ HD7.out hsz7).mono ?_
    rintro e wE ⟨rfl,hbldE,hbelE,-⟩;go_wp2
    go_ret2
    exact⟨by rw[HRR.out];rfl,HB2.trans ((HB7.trans hbelE).mono hsz2)⟩
 have h43:k0<4:=by omega
 have d44:(k0 == 4)=false:=rX.2 h44;have d3:decide (k0<4)=true:=rQ h43
 have ht0:t0=[]:=by apply Decidable.not_not.1;intro e;exact HU.out.2.1 ⟨e,by omega⟩
 rw[rY h43,ht0,tC]at hp;have HP:=ah hp;have hw8:=HP8.out;rw[rY h43]at hw8
 have hcall:=printNum_any k0 n0 w6 (by omega) (by omega) HNUM.out hw8 (HL.below (HB2.trans (HB6.mono hsz2)))
 have hel:=numS_len k0 n0 HNUM.out
 obtain⟨E,hE⟩:=aj (⟨(Cel.numS k0 n0).toArray⟩:ByteArray)
 have hEs:E.size=(Cel.numS k0 n0).length:=by rw[<-hE];exact size_list _
 have hEd:E.data.toList=Cel.numS k0 n0:=by rw[<-hE]
 rw[hE]at hcall;have HC:=ah hcall;have HEd:=ah hEd;have hEl:E.size<1073741824:=by omega
 clear hp h4 d4 h44 ht0 hw8 hcall hel hE hEs hEd;go_wp2_with fail;refine HC.mono ?_
 rintro e w7 ⟨rfl,hb7⟩;have HB7:=ah (HB6.trans (hb7.mono hsz6));have hbld:=HD6.below hb7
 have HD7:=ah hbld;have hsz7:=HB7.size;clear hb7 hbld a0 a1 a2 a3 a4;go_wp2_with fail
 have q3:=bld_str w2.heap.size w2.heap.size ([c]++[58]) E w7 HD7.out hEl (by simp) hsz7
 refine q3.mono ?_;rintro e w8 ⟨rfl,hbld8,hbel8,-⟩;rw[HEd.out,<-HP.out]at hbld8
 have HB8:=ah (HB7.trans hbel8);have HD8:=ah hbld8;have hsz8:=HB8.size
 clear hbld8 hbel8 q3;obtain⟨a0,a1,a2,a3,a4,-⟩:=val_cells (HK2.below HB8.out hkl)
 go_wp2_with fail;clear a0 a1 a2 a3 a4
 go_loopg [48] 0 (fun g x wr=>x=.int .i64 0/\w8=wr/\g=0)
 case atStart=>exact⟨rfl,rfl,rfl⟩
 obtain⟨rfl,rfl,hg0⟩:=hrel;cases gk with
 |succ g=>omega
 |zero=>
  obtain⟨a0,a1,a2,a3,a4,-⟩:=val_cells (HK2.below HB8.out hkl);go_wp2_with fail
  clear a0 a1 a2 a3 a4
  go_loopg [62] 0 (fun g x wr=>x=.int .i64 0/\w8=wr/\g=0)
  case atStart=>exact⟨rfl,rfl,rfl⟩
  obtain⟨rfl,rfl,hg0⟩:=hrel;cases gk with
  |succ g=>omega
  |zero=>
   go_wp2_with fail;refine(bld_string w2.heap.size w2.heap.size _ _ HD8.out hsz8).mono ?_
   rintro e wE ⟨rfl,hbldE,hbelE,-⟩;go_wp2
   go_ret2
   exact⟨by rw[HRR.out];rfl,HB2.trans ((HB8.trans hbelE).mono hsz2)⟩
theorem cut59_cut: ∀(l b:List UInt8),(Lib.cut l [59]).2.2=(Cel.cut59 l b).isSome/\ ∀x r,Cel.cut59 l b=some (x,r)->x=b ++(Lib.cut l [59]).1/\r=(Lib.cut l [59]).2.1:=by
 intro l b;unfold Lib.cut;rw[Lib.index_one]
 induction l generalizing b with
 |nil=>
  refine⟨rfl, ?_⟩;intro x r h;cases h
 |cons c l ih=>
  have hge:=Lib.indexByte_ge l 59;by_cases hc:c=59
  ·subst hc
   have e:Lib.indexByte (59 :: l) 59=0:=by simp[Lib.indexByte]
   have e2:Cel.cut59 (59 :: l) b=some (b,l):=by simp[Cel.cut59]
   rw[e,e2];refine⟨rfl, ?_⟩;intro x r h;cases h;simp
  have e2:Cel.cut59 (c :: l) b=Cel.cut59 l (b++[c]):=by rw[Cel.cut59,rU hc]
  rw[e2];obtain⟨i1,i2⟩:=ih (b++[c]);by_cases hi:Lib.indexByte l 59<0
  ·have e:Lib.indexByte (c :: l) 59= -1:=by simp[Lib.indexByte,hc];omega
   rw[rU (by omega)]at i1 i2
   rw[e,rU (by omega)]
   refine⟨i1, ?_⟩;intro x r h;rw[h]at i1;cases i1
  obtain⟨n,hn⟩: ∃n:Nat,Lib.indexByte l 59=n:=⟨(Lib.indexByte l 59).toNat,by omega⟩
  have e:Lib.indexByte (c :: l) 59=((n+1:Nat):Int):=by simp[Lib.indexByte,hc,hn]
  rw[hn,rY (by omega)]at i1 i2
  rw[e,rY (by omega)]
  refine⟨i1, ?_⟩;intro x r h;obtain⟨j1,j2⟩:=i2 x r h;refine⟨?_, ?_⟩
  ·rw[j1];simp
  rw[j2];simp
theorem cut59_none {l:List UInt8} (h:Cel.cut59 l []=none):(Lib.cut l [59]).2.2=false:=by
 have:=(cut59_cut l []).1;rw[h]at this;exact this
theorem cut59_yes {l x r:List UInt8} (h:Cel.cut59 l []=some (x,r)):Lib.cut l [59]=(x,r,true):=by
 obtain⟨h1,h2⟩:=cut59_cut l [];obtain⟨h3,h4⟩:=h2 x r h;rw[h]at h1;rw[h3,h4,tY]
 exact xW rfl (xW rfl h1)
theorem cut59_shorter {l x r:List UInt8} (h:Cel.cut59 l []=some (x,r)):x.length+r.length+1=l.length:=by
 obtain⟨a,e1,e2⟩:=Cel.cut59_some l [] x r h;rw[tY]at e1;rw[e2,e1];simp;omega
theorem elem_shorter {l x r:List UInt8} (h:Cel.elem l []=some (x,r)):x.length+r.length+1<=l.length:=by
 obtain⟨t,e1,e2⟩:=Cel.elem_some _ l [] x r (rM _) h;rw[tY]at e1
 have: ∀t:List UInt8,t.length<=(Cel.escT t).length:=by
  intro t
  induction t with
  |nil=>simp
  |cons c t ih=>
   unfold Cel.escT
   split
   ·simp only[sS];omega
   simp only[sS];omega
 have h2:=this t;rw[e2,e1];simp;omega
structure PlRel (b:Nat) (w:World) (c0:Int) (s t:Value) (ns:List Int) (ts:List (List UInt8)) (W:World):Prop where
 cpy:Blk W b 51 #[.int .i64 c0,.int .i64 0,.string ⟨#[]⟩,s,t]
 own:W.ownsRow (b+1) 2 1 s ns.length (ns.map I64)
 owt:W.ownsRow (b+1) 9 1 t ts.length (ts.map ST)
 bel:Below b w W
 big:b+1<=W.heap.size
theorem PlRel.below {b:Nat} {w:World} {c0:Int} {s t:Value} {ns:List Int} {ts:List (List UInt8)} {W W':World} (h:PlRel b w c0 s t ns ts W) (hb:Below W.heap.size W W'):PlRel b w c0 s t ns ts W':=by
 have hB:=h.big
 exact⟨h.cpy.below hb h.cpy.lt,own_kept_ty h.own (only_of_below hb none) (fun g c t fz hr=>by cases hr),own_kept_ty h.owt (only_of_below hb none) (fun g c t fz hr=>by cases hr),h.bel.trans (hb.mono (by omega)),rV hB hb.size⟩
theorem PlRel.num {b:Nat} {w:World} {c0:Int} {s t s':Value} {ns:List Int} {y:Int} {ts:List (List UInt8)} {W W1:World} (h:PlRel b w c0 s t ns ts W)
  (ho:W1.ownsRow (b+1) 2 1 s' (ns.length+1) (ns.map I64++[I64 y])) (hg:W.grownBy W1 s.ownBlock) (hb:Below (b+1) W W1):
  W1.cell? ⟨b,3,none⟩=some s/\W1.frozen? ⟨b,3,none⟩=false/\PlRel b w c0 s' t (ns++[y]) ts (W1.setCell ⟨b,3,none⟩ s'):=by
 have k2:=h.cpy.below hb (by omega)
 have o2:=own_grown_ty' h.owt hg h.own (by decide)
 have hs:=grownBy_set W1 ⟨b,3,none⟩ s'
 have nt: ∀{e:TypeId},e≠51-> ∀g c t fz,some (⟨b,3,none⟩:Addr).block=some g->W1.heap[g]?=some (.cells c t fz)->t≠e:=fun he g c t fz e hc=>by
  cases e;unfold Blk at k2;rw[k2]at hc;cases hc;exact Ne.symm he
 refine⟨k2.cell 3,k2.frozen 3,Blk.cast (k2.set_ 3 s') (by simp), ?_,own_kept_ty o2 hs (nt (by decide)), ?_, ?_⟩
 ·rw[rP,uf]
  exact own_kept_ty ho hs (nt (by decide))
 ·exact(h.bel.trans (hb.mono (by omega))).setCell (p:=⟨b,3,none⟩) (by simp) _
 have:=h.big;have:=hb.size;simp;omega
theorem PlRel.txt {b:Nat} {w:World} {c0:Int} {s t t':Value} {ns:List Int} {y:List UInt8} {ts:List (List UInt8)} {W W1:World} (h:PlRel b w c0 s t ns ts W)
  (ho:W1.ownsRow (b+1) 9 1 t' (ts.length+1) (ts.map ST++[ST y])) (hg:W.grownBy W1 t.ownBlock) (hb:Below (b+1) W W1):
  W1.cell? ⟨b,4,none⟩=some t/\W1.frozen? ⟨b,4,none⟩=false/\PlRel b w c0 s t' ns (ts++[y]) (W1.setCell ⟨b,4,none⟩ t'):=by
 have k2:=h.cpy.below hb (by omega)
 have o2:=own_grown_ty' h.own hg h.owt (by decide)
 have hs:=grownBy_set W1 ⟨b,4,none⟩ t'
 have nt: ∀{e:TypeId},e≠51-> ∀g c t fz,some (⟨b,4,none⟩:Addr).block=some g->W1.heap[g]?=some (.cells c t fz)->t≠e:=fun he g c t fz e hc=>by
  cases e;unfold Blk at k2;rw[k2]at hc;cases hc;exact Ne.symm he
 refine⟨k2.cell 4,k2.frozen 4,Blk.cast (k2.set_ 4 t') (by simp),own_kept_ty o2 hs (nt (by decide)), ?_, ?_, ?_⟩
 ·rw[rP,uf]
  exact own_kept_ty ho hs (nt (by decide))
 ·exact(h.bel.trans (hb.mono (by omega))).setCell (p:=⟨b,4,none⟩) (by simp) _
 have:=h.big;have:=hb.size;simp;omega
def PlRes (b:Nat) (w:World) (c0:Int) (ns:List Int) (ts:List (List UInt8)) (er:Nat) (e:Ending) (w':World):Prop:=
 e=.returned (.int .i64 er)/\Below b w w'/\b+1<=w'.heap.size/\ ∃s t,Blk w' b 51 #[.int .i64 c0,.int .i64 0,.string ⟨#[]⟩,s,t]/\(er=0->PlRel b w c0 s t ns ts w')
theorem parseListN_any (k:Int) (rest:ByteArray) (w0 w:World) (hk5:5<=k) (hk7:k<=7) (hs:rest.size<=1073741823) (hL:Laid w0)
  (hb:PlRel w0.heap.size w0 k (.slice none 0 0) (.slice none 0 0) [] [] w):
  Calls Tryz.prog 160 #[.pointer (some ⟨w0.heap.size,0,none⟩),.string rest] w (PlRes w0.heap.size w0 k (Cel.numsP (k - 4) (rest.size+1) rest.data.toList []).1 [] (Cel.numsP (k - 4) (rest.size+1) rest.data.toList []).2):=by
 obtain⟨R,hR⟩:=aj (Cel.numsP (k - 4) (rest.size+1) rest.data.toList []);rw[hR]
 have HR:=ah hR;have HB:=ah hb;have HL:=ah hL
 have hsi:(rest.size:Int)<=1073741823:=by omega
 clear hR hb hL;go_enter Tryz.func160,Tryz.ntmps160;go_wp2_with fail
 go_loopg [1] rest.size (fun g x wr=> ∃(z:ByteArray) (f:Nat) (ns:List Int) (s:Value),x=.string z/\z.size=g/\z.size<f/\Cel.numsP (k - 4) f z.data.toList ns=R/\ns.length+z.size<=rest.size/\PlRel w0.heap.size w0 k s (.slice none 0 0) ns [] wr)
 case atStart=>exact⟨rest,rest.size+1,[],.slice none 0 0,rfl,rfl,by omega,HR.out,by simp,HB.out⟩
 obtain⟨z,f,ns,s,rfl,hz,hf,hres,hnl,hrel⟩:=hrel;have HQ:=ah hrel
 obtain⟨As,cs,rfl⟩:=own_form hrel.own;have hbig:=hrel.big
 obtain⟨a0,a1,a2,a3,a4,-⟩:=val_cells hrel.cpy;clear hrel;cases f with
 |zero=>omega
 |succ f=>
 unfold Cel.numsP at hres;cases gk with
 |zero=>
  have hzl:z.data.toList=[]:=sH (by rw[<-Lib.size_eq];exact hz)
  have t0:(z.toList ==[])=true:=by rw[Lib.toList_data,hzl];rfl
  have t1:(z.toList !=[])=false:=by rw[Lib.toList_data,hzl];rfl
  rw[rY hzl]at hres;subst hres;clear hzl hz hf;go_wp2;go_ret
  exact⟨rfl,HQ.bel,HQ.big,_,_,HQ.cpy,fun _=>HQ.out⟩
 |succ g=>
  have hzl:z.data.toList≠ []:=fun e=>by have:=Lib.size_eq z;rw[e,uO]at this;omega
  have t0:(z.toList ==[])=false:=by rw[Lib.toList_data];exact list_beq hzl
  have t1:(z.toList !=[])=true:=by rw[bne,t0];rfl
  have t8:(k == 8)=false:=rX.2 (by omega)
  rw[rU hzl]at hres;obtain⟨mm,hmm⟩:=(HL.below HQ.bel).max
  have hcut:=Tryz.strings_Cut z ⟨#[59]⟩ mm wr (by omega) hmm
  have e59:(⟨#[59]⟩:ByteArray).data.toList=[59]:=rfl;rw[e59]at hcut
  cases hc:Cel.cut59 z.data.toList [] with
  |none=>
   rw[hc]at hres;simp only at hres;have hcn:=cut59_none hc;rw[hcn]at hcut;subst hres
   have HC:=ah hcut;clear hcut hcn hc hzl hz hf hmm e59;go_wp2_with fail;refine HC.mono ?_
   rintro e w1 ⟨rfl,n,rfl⟩;have HQ1:=ah (HQ.below (below_drewN (Below.refl _ _) n));go_wp2
   go_ret;exact⟨rfl,HQ1.bel,HQ1.big,_,_,HQ1.cpy,fun h=>by cases h⟩
  |some xr=>
   obtain⟨x,r⟩:=xr;rw[hc]at hres;simp only at hres;have hcy:=cut59_yes hc
   have hcs:=cut59_shorter hc;rw[<-Lib.size_eq]at hcs;rw[hcy]at hcut;simp only at hcut
   obtain⟨zx,hzx⟩:=aj (⟨x.toArray⟩:ByteArray);obtain⟨zr,hzr⟩:=aj (⟨r.toArray⟩:ByteArray)
   have hzxl:zx.data.toList=x:=by rw[<-hzx]
   have hzrl:zr.data.toList=r:=by rw[<-hzr]
   have hzxs:zx.size=x.length:=by rw[<-hzx];exact size_list _
   have hzrs:zr.size=r.length:=by rw[<-hzr];exact size_list _
   rw[hzx,hzr]at hcut
   have hpn:=fun(W:World) (hb:Below w0.heap.size w0 W)=>parseNum_any (k - 4) zx W (by omega) (by omega) (by omega) (HL.below hb)
   rw[hzxl]at hpn;obtain⟨N,hN⟩:=aj (Cel.numP (k - 4) x);rw[hN]at hpn hres
   have HC:=ah hcut;have HPN:=ah hpn;have HZRL:=ah hzrl
   have HZRS:=ah (show zr.size<z.size/\zr.size<f by omega)
   have HRES:=ah hres;have HNL:=ah (show ns.length+1+zr.size<=rest.size by omega)
   have hnl2:ns.length<1073741824:=by omega
   have HZ:=ah hz
   clear hcut hcy hcs hc hzx hzr hzxl hzrl hzxs hzrs hpn hN hzl hz hf hmm e59 hres hnl
   go_wp2_with fail;refine HC.mono ?_;rintro e w1 ⟨rfl,n,rfl⟩
   have HQ1:=ah (HQ.below (below_drewN (Below.refl _ _) n));clear a0 a1 a2 a3 a4
   obtain⟨a0,a1,a2,a3,a4,-⟩:=val_cells HQ1.cpy;go_wp2_with fail
   refine(HPN.out _ HQ1.bel).mono ?_;rintro e w2 ⟨rfl,hb2⟩;have HQ2:=ah (HQ1.below hb2)
   clear a0 a1 a2 a3 a4 hb2;obtain⟨a0,a1,a2,a3,a4,-⟩:=val_cells HQ2.cpy;obtain⟨y,er⟩:=N
   by_cases he:er=0
   ·subst he
    have hres:=HRES.out;rw[rU (by simp)]at hres
    have HRS:=ah hres;have hbg:=HQ2.big
    have la3:=(HQ2.cpy.alloc (.cells #[.int .i64 y] 2)).cell 3;simp at la3;clear hres
    go_wp2_with (at_builtin;refine wpList_append_one rfl (.tmp 62) (.tmp 64) 49 2 (.int .i64 0) 8 Tryz.underlying49 info_int64 rfl (by decide) rfl (w0.heap.size+1) (.slice As ns.length cs) ns.length _ w2 rfl HQ2.own (.int .i64 y) rfl rfl hnl2 hbg ?_)
    intro v9 w9 hown9 hgr9 hwh9 hb9;obtain⟨A9,c9,rfl⟩:=own_form hown9
    obtain⟨d3,df3,hnx⟩:=HQ2.num hown9 hgr9 hb9;have HNX:=ah hnx
    clear hown9 hgr9 hwh9 hb9 hnx la3 a0 a1 a2 a3 a4;go_wp2
    go_roundg zr.size
    case measure=>have:=HZRS.out;have:=HZ.out;omega
    exact⟨zr,f,ns++[y],_,rfl,rfl,HZRS.out.2,by rw[HZRL.out];exact HRS.out,by rw[rP,uh];exact HNL.out,HNX.out⟩
   have hres:=HRES.out;rw[rY he]at hres;subst hres
   have t9:((er:Int) !=0)=true:=by rw[tH];omega
   have HE:=ah he;clear he;go_wp2;go_ret
   exact⟨rfl,HQ2.bel,HQ2.big,_,_,HQ2.cpy,fun h=>absurd h HE.out⟩
theorem parseListT_any (rest:ByteArray) (w0 w:World) (hs:rest.size<=1073741823)
  (hb:PlRel w0.heap.size w0 8 (.slice none 0 0) (.slice none 0 0) [] [] w):
  Calls Tryz.prog 160 #[.pointer (some ⟨w0.heap.size,0,none⟩),.string rest] w (PlRes w0.heap.size w0 8 [] (Cel.textsP (rest.size+1) rest.data.toList []).1 (Cel.textsP (rest.size+1) rest.data.toList []).2):=by
 obtain⟨R,hR⟩:=aj (Cel.textsP (rest.size+1) rest.data.toList []);rw[hR];have HR:=ah hR
 have HB:=ah hb;have hsi:(rest.size:Int)<=1073741823:=by omega
 clear hR hb;go_enter Tryz.func160,Tryz.ntmps160;go_wp2_with fail
 go_loopg [1] rest.size (fun g x wr=> ∃(z:ByteArray) (f:Nat) (ts:List (List UInt8)) (t:Value),x=.string z/\z.size=g/\z.size<f/\Cel.textsP f z.data.toList ts=R/\ts.length+z.size<=rest.size/\PlRel w0.heap.size w0 8 (.slice none 0 0) t [] ts wr)
 case atStart=>exact⟨rest,rest.size+1,[],.slice none 0 0,rfl,rfl,by omega,HR.out,by simp,HB.out⟩
 obtain⟨z,f,ts,t,rfl,hz,hf,hres,hnl,hrel⟩:=hrel;have HQ:=ah hrel
 obtain⟨As,cs,rfl⟩:=own_form hrel.owt;have hbig:=hrel.big
 obtain⟨a0,a1,a2,a3,a4,-⟩:=val_cells hrel.cpy;clear hrel;cases f with
 |zero=>omega
 |succ f=>
 unfold Cel.textsP at hres;cases gk with
 |zero=>
  have hzl:z.data.toList=[]:=sH (by rw[<-Lib.size_eq];exact hz)
  have t0:(z.toList ==[])=true:=by rw[Lib.toList_data,hzl];rfl
  have t1:(z.toList !=[])=false:=by rw[Lib.toList_data,hzl];rfl
  rw[rY hzl]at hres;subst hres;clear hzl hz hf;go_wp2;go_ret
  exact⟨rfl,HQ.bel,HQ.big,_,_,HQ.cpy,fun _=>HQ.out⟩
 |succ g=>
  have hzl:z.data.toList≠ []:=fun e=>by have:=Lib.size_eq z;rw[e,uO]at this;omega
  have t0:(z.toList ==[])=false:=by rw[Lib.toList_data];exact list_beq hzl
  have t1:(z.toList !=[])=true:=by rw[bne,t0];rfl
  rw[rU hzl]at hres;have hel:=element_any z wr (by omega)
  cases hc:Cel.elem z.data.toList [] with
  |none=>
   rw[hc]at hres hel;simp only at hres;simp only[elemV]at hel;subst hres
   have HC:=ah hel;clear hel hc hzl hz hf;go_wp2_with fail;refine HC.mono ?_
   rintro e w1 ⟨rfl,hb1⟩;have HQ1:=ah (HQ.below hb1);clear hb1;go_wp2;go_ret
   exact⟨rfl,HQ1.bel,HQ1.big,_,_,HQ1.cpy,fun h=>by cases h⟩
  |some xr=>
   obtain⟨x,r⟩:=xr;rw[hc]at hres hel;simp only at hres;have hcs:=elem_shorter hc
   rw[<-Lib.size_eq]at hcs;simp only[elemV]at hel
   obtain⟨zx,hzx⟩:=aj (⟨x.toArray⟩:ByteArray);obtain⟨zr,hzr⟩:=aj (⟨r.toArray⟩:ByteArray)
   have hzrl:zr.data.toList=r:=by rw[<-hzr]
   have hzrs:zr.size=r.length:=by rw[<-hzr];exact size_list _
   rw[hzx,hzr]at hel;have HC:=ah hel;have HZX:=ah hzx;have HZRL:=ah hzrl
   have HZRS:=ah (show zr.size<z.size/\zr.size<f by omega)
   have HRES:=ah hres;have HNL:=ah (show ts.length+1+zr.size<=rest.size by omega)
   have hnl2:ts.length<1073741824:=by omega
   have HZ:=ah hz;clear hel hcs hc hzx hzr hzrl hzrs hzl hz hf hres hnl;go_wp2_with fail
   refine HC.mono ?_;rintro e w2 ⟨rfl,hb1⟩;have HQ2:=ah (HQ.below hb1)
   clear a0 a1 a2 a3 a4 hb1;obtain⟨a0,a1,a2,a3,a4,-⟩:=val_cells HQ2.cpy;have hbg:=HQ2.big
   have la3:=(HQ2.cpy.alloc (.cells #[.string zx] 9)).cell 4;simp at la3
   go_wp2_with (at_builtin;refine wpList_append_one rfl (.tmp 31) (.tmp 33) 45 9 (.string ⟨#[]⟩) 16 Tryz.underlying45 info_str rfl (by decide) rfl (w0.heap.size+1) (.slice As ts.length cs) ts.length _ w2 rfl HQ2.owt (.string zx) rfl rfl hnl2 hbg ?_)
   intro v9 w9 hown9 hgr9 hwh9 hb9;obtain⟨A9,c9,rfl⟩:=own_form hown9
   obtain⟨d3,df3,hnx⟩:=HQ2.txt (y:=x) (by unfold ST;rw[HZX.out];exact hown9) hgr9 hb9
   have HNX:=ah hnx;clear hown9 hgr9 hwh9 hb9 hnx la3 a0 a1 a2 a3 a4;go_wp2
   go_roundg zr.size
   case measure=>have:=HZRS.out;have:=HZ.out;omega
   exact⟨zr,f,ts++[x],_,rfl,rfl,HZRS.out.2,by rw[HZRL.out];exact HRES.out,by rw[rP,uh];exact HNL.out,HNX.out⟩
end Go.Proofs.YtanlehkalkafdaaGreatDoor
