/- Contracts and plain laws,part 37. -/
import Derived.Test.YtanlehkalkafdaaGreatDoorUR14
set_option maxHeartbeats 64000000
set_option maxRecDepth 1000000
set_option linter.all false
namespace Go.Proofs.YtanlehkalkafdaaGreatDoor
open Go.RowKit
theorem OwnB.empty (w:World) (B:Nat) (hB:B<=w.heap.size):OwnB B (.slice (some ⟨w.heap.size,0,none⟩) 0 0) [] (w.alloc (.cells #[] 5)):=
 own_empty w _ _ 0 _ hB rfl
theorem special_bools (y:UInt8):Csv.special y=(((y.toNat:Int) == 34) ||((y.toNat:Int) == 44) ||((y.toNat:Int) == 13) ||((y.toNat:Int) == 10)):=by
 have h: ∀c:UInt8,(y == c)=((y.toNat:Int) ==(c.toNat:Int)):=fun c=>by
  rw[wJ];simp only[uw];exact⟨fun e=>by rw[e],fun e=>yE (by omega)⟩
 unfold Csv.special;rw[h 34,h 44,h 13,h 10];rfl
theorem esc_cons (x:UInt8) (f:Csv.F):Csv.esc (x :: f)=(if x=34 then[34,34] else[x])++Csv.esc f:=rfl
theorem refCsvPrint_any (a:Value) (x:List (List Csv.F)) (w:World) (ha:Rows2 w w.heap.size a x) (hw:Csv.wRows x<=268435456):
  Calls Tryz.prog 29 #[a] w fun e w'=>e=.returned (printVal 2 (Csv.print x))/\Below w.heap.size w w':=by
 have hx0:=len_le_wRows x;obtain⟨A,c,us,rfl,_,_,hul,hA,hAr⟩:=ha;have HA:=ah hA
 have HAR:=ah hAr;clear hA hAr;obtain⟨n,hn⟩:=aj x.length;obtain⟨M,hM⟩:=aj (Csv.wRows x)
 rw[hn]at HA hul hx0⊢;rw[hM]at hw hx0;have HN:=ah hn;have HU:=ah hul;have HM:=ah hM
 clear hn hul hM;go_enter Tryz.func29,Tryz.ntmps29;go_wp2
 have hO0:=OwnB.empty w w.heap.size (rM _)
 go_loopg [4,5] n (fun g o i wr=> ∃(k:Nat) (acc:Csv.F),k+g=n/\i=.int .i64 k/\Below w.heap.size w wr/\OwnB w.heap.size o acc wr/\Csv.print x=(Csv.print (x.drop k)).map (acc ++ ·)/\acc.length+Csv.wRows (x.drop k)<=M)
 case atStart=>
  exact⟨0,[],by omega,rfl,(Below.refl _ _).alloc (rM _) _,hO0,by simp,by have:=HM.out;simp[this]⟩
 obtain⟨k,acc,hk,rfl,hbel,hown,hpr,hlen⟩:=hrel;have HK:=ah hk;have HBEL:=ah hbel
 have HB:=ah hown;have HP:=ah hpr;clear hk hbel hpr hO0;have hB:=HBEL.size;cases gk with
 |zero=>
  obtain rfl:k=n:=by have:=HK.out;omega
  have hcv:=hown.conv;clear hown;go_wp2
  go_ret2
  refine⟨ret_eq ?_,HBEL.out⟩;rw[HP.out,uq (by have:=HN.out;omega)]
  simp[Csv.print,printVal]
 |succ g=>
  clear hown;have hlt:k<n:=by have:=HK.out;omega
  obtain⟨b1,o1,u1,rfl,hb1,hx1,hc1⟩:=(HA.below HBEL.out).at_ hlt
  have hkx:k<x.length:=by have:=HN.out;omega
  have HD:Hid (x.drop k=x[k] :: x.drop (k+1)):=tJ hkx
  have hr1:=HAR.out k u1 _ hx1 (ay hkx);obtain⟨row,hrow⟩:=aj (x[k]);rw[hrow]at HD hr1
  rw[HD.out,wRows_cons]at hlen;obtain⟨A1,c1,hu1e,_,_,hR⟩:=hr1;subst hu1e
  have hl0:=len_le_wRow row;obtain⟨m1,hm1⟩:=aj row.length;rw[hm1]at hl0 hR hc1
  have HR:=ah hR;have HM1:=ah hm1
  have HC1:=ah (show w.cell? ⟨b1,o1+k,none⟩=some (.slice A1 m1 c1) from(HBEL.cell hb1).symm.trans hc1)
  clear hR hx1 hrow hm1;have hkn:((k:Int))<n:=by omega
  by_cases he:m1=0
  ·subst he
   have:row=[]:=sH HM1.out;subst this;go_wp2
   go_ret2
   refine⟨ret_eq ?_,HBEL.out⟩;rw[HP.out,HD.out];rfl
  have hne0:((m1:Int) == 0)=false:=by simp;omega
  go_wp2;clear hc1
  go_loopg [4,6] m1 (fun g o i wx=> ∃(j:Nat) (acc':Csv.F),j+g=m1/\i=.int .i64 j/\Below w.heap.size w wx/\OwnB w.heap.size o acc' wx/\acc++Csv.fieldsK 0 row=acc' ++ Csv.fieldsK j (row.drop j)/\acc'.length+Csv.wRow (row.drop j)<=acc.length+Csv.wRow row)
  case atStart=>exact⟨0,acc,by omega,rfl,HBEL.out,HB.out,by simp,by simp⟩
  obtain⟨j,acc',hj,rfl,hbel,hown,hfl,hlen'⟩:=hrel;have HJ:=ah hj;have HB':=ah hown
  have HF:=ah hfl;have HBEL':=ah hbel;have hB':=hbel.size
  have hc1:wr.cell? ⟨b1,o1+k,none⟩=some (.slice A1 m1 c1):=(hbel.cell hb1).trans HC1.out
  clear hj hown hfl hbel HB hB HBEL;cases gk with
  |zero=>
   obtain rfl:j=m1:=by have:=HJ.out;omega
   have HF2:Hid (acc++Csv.printRow row=acc' ++ [13]++[10]):=by
    refine ah ?_;have h1:=HF.out;rw[uq (by have:=HM1.out;omega)]at h1
    unfold Csv.printRow;rw[<-sV,h1];simp[Csv.fieldsK]
   have hl2:acc'.length+2<=acc.length+Csv.wRow row:=by
    have h1:=HF2.out;have h2:=uo List.length h1;have h3:=Csv.fieldsK_length row 0
    simp[Csv.printRow]at h2;omega
   have hacc:acc'.length<1073741824:=by omega
   obtain⟨A4,c4,rfl⟩:=HB'.out.form
   go_wp2_with (at_builtin;go_loud (refine wpList_append_bytes rfl (.tmp 103) (.tmp 104) rfl w.heap.size (.slice A4 acc'.length c4) acc' wr rfl HB'.out [13,10] [.int .u8 13,.int .u8 10] bcEnd 2 rfl rfl hacc (by decide) hB' ?_))
   intro v2 w2 hown2 _ hbel2;have HO2:=ah hown2
   have HBE2:Hid (Below w.heap.size w w2):=HBEL'.out.trans hbel2;clear hown2 hbel2;go_wp2
   go_roundg g
   case measure=>omega
   refine⟨k+1,acc' ++ [13,10],by have:=HK.out;omega,by go_num,HBE2.out,HO2.out, ?_, ?_⟩
   ·have hrn:row≠ []:=fun e=>by rw[e]at HM1;exact he HM1.symm
    rw[HP.out,HD.out,Csv.print,rU hrn,Option.map_map]
    congr 1
    funext t
    simp only[Function.comp];rw[<-sV,HF2.out,sV,sV];simp
   simp;omega
  |succ g'=>
   have hlt':j<m1:=by have:=HJ.out;omega
   obtain⟨b2,o2,u2,rfl,hb2,hx2,hc2⟩:=(HR.below HBEL'.out).at_ hlt'
   have hjx:j<row.length:=by have:=HM1.out;omega
   have HD':Hid (row.drop j=row[j] :: row.drop (j+1)):=tJ hjx;rw[tu,ay hjx]at hx2
   obtain rfl:=tN hx2;obtain⟨f,hf⟩:=aj (row[j]);rw[hf]at HD' hc2
   rw[HD'.out,csvRow_cons]at hlen';obtain⟨sf,hsf⟩:=aj (⟨f.toArray⟩:ByteArray)
   obtain⟨lf,hlf⟩:=aj f.length
   have hsz:sf.size=lf:=by rw[<-hsf,<-hlf];simp[ByteArray.size]
   unfold S at hc2;rw[hsf]at hc2
   have HSF:Hid (sf.data.toList=f):=by rw[<-hsf];exact ah rfl
   have hjn:((j:Int))<m1:=by omega
   clear hx2 hf hsf;have hfs:lf<268435456:=by omega
   have HLF:=ah hlf;have HSZ:=ah hsz;have hpl:=Csv.printF_length f
   have hkk: ∀(acc2:Csv.F),acc2=acc' ++(if 0<j then[44] else[])++Csv.printF f->acc++Csv.fieldsK 0 row=acc2++Csv.fieldsK (j+1) (row.drop (j+1))/\acc2.length+Csv.wRow (row.drop (j+1))<=acc.length+Csv.wRow row:=fun acc2 e=>by
    refine⟨by rw[HF.out,HD'.out,fieldsK_cons,e];simp[sV], ?_⟩
    rw[e];have:(if 0<j then[44] else([]:Csv.F)).length<=1:=by split<;>simp
    simp only[rP];omega
   have HKK:=ah hkk;clear hkk;obtain⟨sep,hsep⟩:=aj ((if 0<j then[44] else[]):Csv.F)
   rw[hsep]at HKK;have hsl:sep.length<=1:=by rw[<-hsep];split<;>simp
   have hacc:acc'.length+2*lf+3<1073741824:=by omega
   clear hlf hsz hpl
   rcases uY j with hj0|hj0
   ·have hse:sep=[]:=by rw[<-hsep,rU (by omega)]
    have hjz:decide (0<j)=false:=by simp;omega
    subst hse;clear hsep hj0;have HB1:=HB';have HBE1:=HBEL';obtain⟨ac1,hac1⟩:=aj acc'
    rw[hac1]at HB1;have haceq:ac1=acc' ++ []:=by rw[hac1];simp
    clear hac1 HB' HBEL' hB';have HAC:=ah haceq;clear haceq;obtain⟨A5,c5,rfl⟩:=HB1.form
    have hB1:=HBE1.size;go_wp2
    go_loopg [8,9] lf (fun g sp i wx=> ∃q:Nat,q+g=lf/\i=.int .i64 q/\sp=.bool ((f.take q).any Csv.special)/\wx=wr)
    case atStart=>exact⟨0,by omega,rfl,by simp,rfl⟩
    obtain⟨q,hq,rfl,rfl,rfl⟩:=hrel;cases gk with
    |zero=>
     obtain rfl:lf=q:=by omega
     have htk:f.take lf=f:=sG (by have:=HLF.out;omega)
     rw[htk];clear htk;obtain⟨sp,hsp⟩:=aj (f.any Csv.special);rw[hsp];have HSP:=ah hsp
     clear hsp;have hszz:=HSZ.out;have HE:=ah (Csv.esc_length f);cases sp with
     |true=>
      have HPF:Hid (Csv.printF f=[34]++Csv.esc f++[34]):=by refine ah ?_;rw[Csv.printF,rY HSP.out];rfl
      go_wp2_with (at_builtin;refine wpList_append_bytes rfl (.tmp 77) (.tmp 78) rfl w.heap.size (.slice A5 ac1.length c5) ac1 wr rfl HB1.out [34] [.int .u8 34] bc34 1 rfl rfl (by rw[HAC.out];simp;omega) (by decide) hB1 ?_)
      intro v6 w6 hown6 _ hbel6;have HO6:=ah hown6
      have HBE6:Hid (Below w.heap.size w w6):=HBE1.trans hbel6
      clear hown6 hbel6 HB1 HBE1 hB1;obtain⟨A6,c6,e6⟩:=HO6.form
      generalize (ac1++[34]).length=n6 at e6
      subst e6;go_wp2
      go_loopg [4,10] f.length (fun g o i wx=> ∃(q:Nat) (ac2:Csv.F),q+g=f.length/\i=.int .i64 q/\Below w.heap.size w wx/\OwnB w.heap.size o ac2 wx/\ac1++[34]++Csv.esc f=ac2++Csv.esc (f.drop q))
      case atStart=>exact⟨0,_,by omega,rfl,HBE6.out,HO6.out,by simp⟩
      obtain⟨q,ac2,hq,rfl,hbel,hown,hes⟩:=hrel;have HQ:=ah hq;have HB2:=ah hown
      have HES:=ah hes;have HBEL2:=ah hbel;have hB2:=hbel.size
      have hlen2:ac2.length<=ac1.length+1+2*f.length:=by
       have h1:=uo List.length HES.out;have h2:=HE.out;simp at h1;omega
      have hac2:ac2.length+2<1073741824:=by rw[HAC.out]at hlen2;have:=HLF.out;simp at hlen2;omega
      clear hq hown hes hbel HO6 HBE6 hlen2;obtain⟨A7,c7,rfl⟩:=HB2.form;cases gk with
      |zero=>
       have hqf:q=f.length:=by have:=HQ.out;omega
       have HES2:Hid (ac1++[34]++Csv.esc f=ac2):=by
        refine ah ?_;rw[HES.out,hqf,uq (rM _)];simp[Csv.esc]
       obtain rfl:lf=q:=by rw[hqf];exact HLF.symm
       clear hqf
       go_wp2_with (at_builtin;refine wpList_append_bytes rfl (.tmp 100) (.tmp 101) rfl w.heap.size (.slice A7 ac2.length c7) ac2 wr rfl HB2.out [34] [.int .u8 34] bc34 1 rfl rfl (by omega) (by decide) hB2 ?_)
       intro v8 w8 hown8 _ hbel8
       have HKK2:=ah (HKK.out (ac2++[34]) (by rw[<-HES2.out,HPF.out,HAC.out];simp))
       have HO8:=ah hown8;have HBE8:Hid (Below w.heap.size w w8):=HBEL2.trans hbel8
       clear hown8 hbel8;go_wp2
       go_roundg g'
       case measure=>omega
       exact⟨j+1,_,by have:=HJ.out;omega,by go_num,HBE8.out,HO8.out,HKK2.out.1,HKK2.out.2⟩
      |succ g4=>
       have hqs:q<sf.size:=by rw[HSZ.out];have:=HQ.out;have:=HLF.out;omega
       obtain⟨y,hy⟩:=aj (sf[q]'hqs);have hql:(q:Int)<lf:=by have:=HSZ.out;omega
       have HT:Hid (Csv.esc (f.drop q)=(if y=34 then[34,34] else[y])++Csv.esc (f.drop (q+1))):=by
        refine ah ?_;have h1:=Lib.data_getElem? sf q hqs;rw[HSF.out,hy]at h1
        obtain⟨h2,h3⟩:=rZ.1 h1;rw[tJ h2,esc_cons,h3]
       have h0:(0:Int)<=(y.toNat:Int):=by omega
       by_cases hy34:y=34
       ·subst hy34
        have HES3:Hid (ac1++[34]++Csv.esc f=ac2++[34]++[34]++Csv.esc (f.drop (q+1))):=by
         refine ah ?_;rw[HES.out,HT.out,rY rfl];simp
        go_wp2_with (at_builtin;refine wpList_append_bytes rfl (.tmp 90) (.tmp 91) rfl w.heap.size (.slice A7 ac2.length c7) ac2 wr rfl HB2.out [34] [.int .u8 34] bc34 1 rfl rfl (by omega) (by decide) hB2 ?_)
        intro v9 w9 hown9 _ hbel9;have HO9:=ah hown9
        have HBE9:Hid (Below w.heap.size w w9):=HBEL2.trans hbel9;clear hown9 hbel9
        obtain⟨A9,c9,rfl⟩:=HO9.form;have hB9:=HBE9.size
        go_wp2_with (at_builtin;refine wpList_append_bytes rfl (.tmp 93) (.tmp 97) rfl w.heap.size (.slice A9 (ac2++[34]).length c9) (ac2++[34]) w9 rfl HO9.out [34] [.int .u8 34] bc34 1 rfl rfl (by simp;omega) (by decide) hB9 ?_)
        intro v10 w10 hown10 _ hbel10;have HO10:=ah hown10
        have HBE10:Hid (Below w.heap.size w w10):=HBE9.trans hbel10;clear hown10 hbel10
        go_wp2
        go_roundg g4
        case measure=>omega
        exact⟨q+1,_,by have:=HQ.out;omega,by go_num,HBE10.out,HO10.out,by rw[HES3.out];try simp only[sV,uG,tY]⟩
       have hne:((y.toNat:Int) == 34)=false:=by
        refine rX.2 (fun e=>hy34 (yE ?_))
        show y.toNat=34
        omega
       have HES3:Hid (ac1++[34]++Csv.esc f=ac2++[y]++Csv.esc (f.drop (q+1))):=by
        refine ah ?_;rw[HES.out,HT.out,rU hy34];simp
       clear hy34
       go_wp2_with (at_builtin;refine wpList_append_bytes rfl (.tmp 93) (.tmp 97) rfl w.heap.size (.slice A7 ac2.length c7) ac2 wr rfl HB2.out [y] [.int .u8 (y.toNat:Int)] (byteCells_one y).symm 1 rfl rfl (by omega) (by decide) hB2 ?_)
       intro v10 w10 hown10 _ hbel10;have HO10:=ah hown10
       have HBE10:Hid (Below w.heap.size w w10):=HBEL2.trans hbel10;clear hown10 hbel10
       go_wp2
       go_roundg g4
       case measure=>omega
       exact⟨q+1,_,by have:=HQ.out;omega,by go_num,HBE10.out,HO10.out,by rw[HES3.out];try simp only[sV,uG,tY]⟩
     |false=>
      have HPF:Hid (Csv.printF f=Csv.esc f):=by refine ah ?_;rw[Csv.printF,rU (by rw[HSP.out];simp),Csv.esc_plain f HSP.out]
      have HB1':Hid (OwnB w.heap.size (.slice A5 ac1.length c5) (ac1++[]) wr):=by rw[tC];exact HB1
      go_wp2
      go_loopg [4,10] f.length (fun g o i wx=> ∃(q:Nat) (ac2:Csv.F),q+g=f.length/\i=.int .i64 q/\Below w.heap.size w wx/\OwnB w.heap.size o ac2 wx/\ac1++[]++Csv.esc f=ac2++Csv.esc (f.drop q))
      case atStart=>exact⟨0,_,by omega,rfl,HBE1.out,HB1'.out,by simp⟩
      obtain⟨q,ac2,hq,rfl,hbel,hown,hes⟩:=hrel;have HQ:=ah hq;have HB2:=ah hown
      have HES:=ah hes;have HBEL2:=ah hbel;have hB2:=hbel.size
      have hlen2:ac2.length<=ac1.length+1+2*f.length:=by
       have h1:=uo List.length HES.out;have h2:=HE.out;simp at h1;omega
      have hac2:ac2.length+2<1073741824:=by rw[HAC.out]at hlen2;have:=HLF.out;simp at hlen2;omega
      clear hq hown hes hbel HB1 HB1' HBE1 hB1 hlen2;obtain⟨A7,c7,rfl⟩:=HB2.form
      cases gk with
      |zero=>
       have hqf:q=f.length:=by have:=HQ.out;omega
       have HES2:Hid (ac1++[]++Csv.esc f=ac2):=by
        refine ah ?_;rw[HES.out,hqf,uq (rM _)];simp[Csv.esc]
       obtain rfl:lf=q:=by rw[hqf];exact HLF.symm
       clear hqf;have HKK2:=ah (HKK.out ac2 (by rw[<-HES2.out,HPF.out,HAC.out];simp))
       go_wp2
       go_roundg g'
       case measure=>omega
       exact⟨j+1,_,by have:=HJ.out;omega,by go_num,HBEL2.out,HB2.out,HKK2.out.1,HKK2.out.2⟩
      |succ g4=>
       have hqs:q<sf.size:=by rw[HSZ.out];have:=HQ.out;have:=HLF.out;omega
       obtain⟨y,hy⟩:=aj (sf[q]'hqs);have hql:(q:Int)<lf:=by have:=HSZ.out;omega
       have HT:Hid (Csv.esc (f.drop q)=(if y=34 then[34,34] else[y])++Csv.esc (f.drop (q+1))):=by
        refine ah ?_;have h1:=Lib.data_getElem? sf q hqs;rw[HSF.out,hy]at h1
        obtain⟨h2,h3⟩:=rZ.1 h1;rw[tJ h2,esc_cons,h3]
       have h0:(0:Int)<=(y.toNat:Int):=by omega
       by_cases hy34:y=34
       ·subst hy34
        have HES3:Hid (ac1++[]++Csv.esc f=ac2++[34]++[34]++Csv.esc (f.drop (q+1))):=by
         refine ah ?_;rw[HES.out,HT.out,rY rfl];simp
        go_wp2_with (at_builtin;refine wpList_append_bytes rfl (.tmp 90) (.tmp 91) rfl w.heap.size (.slice A7 ac2.length c7) ac2 wr rfl HB2.out [34] [.int .u8 34] bc34 1 rfl rfl (by omega) (by decide) hB2 ?_)
        intro v9 w9 hown9 _ hbel9;have HO9:=ah hown9
        have HBE9:Hid (Below w.heap.size w w9):=HBEL2.trans hbel9;clear hown9 hbel9
        obtain⟨A9,c9,rfl⟩:=HO9.form;have hB9:=HBE9.size
        go_wp2_with (at_builtin;refine wpList_append_bytes rfl (.tmp 93) (.tmp 97) rfl w.heap.size (.slice A9 (ac2++[34]).length c9) (ac2++[34]) w9 rfl HO9.out [34] [.int .u8 34] bc34 1 rfl rfl (by simp;omega) (by decide) hB9 ?_)
        intro v10 w10 hown10 _ hbel10;have HO10:=ah hown10
        have HBE10:Hid (Below w.heap.size w w10):=HBE9.trans hbel10;clear hown10 hbel10
        go_wp2
        go_roundg g4
        case measure=>omega
        exact⟨q+1,_,by have:=HQ.out;omega,by go_num,HBE10.out,HO10.out,by rw[HES3.out];try simp only[sV,uG,tY]⟩
       have hne:((y.toNat:Int) == 34)=false:=by
        refine rX.2 (fun e=>hy34 (yE ?_))
        show y.toNat=34
        omega
       have HES3:Hid (ac1++[]++Csv.esc f=ac2++[y]++Csv.esc (f.drop (q+1))):=by
        refine ah ?_;rw[HES.out,HT.out,rU hy34];simp
       clear hy34
       go_wp2_with (at_builtin;refine wpList_append_bytes rfl (.tmp 93) (.tmp 97) rfl w.heap.size (.slice A7 ac2.length c7) ac2 wr rfl HB2.out [y] [.int .u8 (y.toNat:Int)] (byteCells_one y).symm 1 rfl rfl (by omega) (by decide) hB2 ?_)
       intro v10 w10 hown10 _ hbel10;have HO10:=ah hown10
       have HBE10:Hid (Below w.heap.size w w10):=HBEL2.trans hbel10;clear hown10 hbel10
       go_wp2
       go_roundg g4
       case measure=>omega
       exact⟨q+1,_,by have:=HQ.out;omega,by go_num,HBE10.out,HO10.out,by rw[HES3.out];try simp only[sV,uG,tY]⟩
    |succ g3=>
     have hqs:q<sf.size:=by rw[HSZ.out];omega
     obtain⟨y,hy⟩:=aj (sf[q]'hqs)
     have HT:Hid ((f.take (q+1)).any Csv.special=((f.take q).any Csv.special || Csv.special y)):=by
      refine ah ?_;have h1:=Lib.data_getElem? sf q hqs;rw[HSF.out,hy]at h1
      obtain⟨h2,h3⟩:=rZ.1 h1;rw[vC h2,h3];simp
     obtain⟨fl,hfl⟩:=aj ((f.take q).any Csv.special);rw[hfl]at HT⊢;have hszz:=HSZ.out
     have hql:(q:Int)<lf:=by omega
     clear hfl;obtain⟨q1,hq1⟩:=aj ((y.toNat:Int) == 34)
     obtain⟨q2,hq2⟩:=aj ((y.toNat:Int) == 44);obtain⟨q3,hq3⟩:=aj ((y.toNat:Int) == 13)
     obtain⟨q4,hq4⟩:=aj ((y.toNat:Int) == 10)
     have HSP:Hid (Csv.special y=(q1 || q2 || q3 || q4)):=by
      refine ah ?_;rw[<-hq1,<-hq2,<-hq3,<-hq4];exact special_bools y
     cases fl with
     |true=>
      go_wp2
      go_roundg g3
      case measure=>omega
      exact⟨q+1,by omega,by go_num,by rw[HT.out,HSP.out];rfl,rfl⟩
     |false=>
      cases q1 with
      |true=>
       go_wp2
       go_roundg g3
       case measure=>omega
       exact⟨q+1,by omega,by go_num,by rw[HT.out,HSP.out];rfl,rfl⟩
      |false=>
       cases q2 with
       |true=>
        go_wp2
        go_roundg g3
        case measure=>omega
        exact⟨q+1,by omega,by go_num,by rw[HT.out,HSP.out];rfl,rfl⟩
       |false=>
        cases q3 with
        |true=>
         go_wp2
         go_roundg g3
         case measure=>omega
         exact⟨q+1,by omega,by go_num,by rw[HT.out,HSP.out];rfl,rfl⟩
        |false=>
         cases q4 with
         |true=>
          go_wp2
          go_roundg g3
          case measure=>omega
          exact⟨q+1,by omega,by go_num,by rw[HT.out,HSP.out];rfl,rfl⟩
         |false=>
          go_wp2
          go_roundg g3
          case measure=>omega
          exact⟨q+1,by omega,by go_num,by rw[HT.out,HSP.out];rfl,rfl⟩
   have hse:sep=[44]:=by rw[<-hsep,rY (by omega)]
   have hjz:decide (0<j)=true:=by simp;omega
   subst hse;clear hsep hj0;obtain⟨A0,c0,rfl⟩:=HB'.out.form
   go_wp2_with (at_builtin;refine wpList_append_bytes rfl (.tmp 42) (.tmp 43) rfl w.heap.size (.slice A0 acc'.length c0) acc' wr rfl HB'.out [44] [.int .u8 44] bc44 1 rfl rfl (by omega) (by decide) hB' ?_)
   intro v1 w1 hown1 _ hbel1;have HB1e:=ah hown1
   have HBE1:Hid (Below w.heap.size w w1):=HBEL'.out.trans hbel1
   clear hown1 hbel1 HBEL' HB' hB';obtain⟨ac1,hac1⟩:=aj (acc' ++ [44]);rw[hac1]at HB1e
   have HB1:=HB1e;have haceq:ac1=acc' ++ [44]:=hac1.symm;clear hac1 HB1e
   have HAC:=ah haceq;clear haceq;obtain⟨A5,c5,rfl⟩:=HB1.form;have hB1:=HBE1.size;go_wp2
   go_loopg [8,9] lf (fun g sp i wx=> ∃q:Nat,q+g=lf/\i=.int .i64 q/\sp=.bool ((f.take q).any Csv.special)/\wx=w1)
   case atStart=>exact⟨0,by omega,rfl,by simp,rfl⟩
   obtain⟨q,hq,rfl,rfl,rfl⟩:=hrel;cases gk with
   |zero=>
    obtain rfl:lf=q:=by omega
    have htk:f.take lf=f:=sG (by have:=HLF.out;omega)
    rw[htk];clear htk;obtain⟨sp,hsp⟩:=aj (f.any Csv.special);rw[hsp];have HSP:=ah hsp
    clear hsp;have hszz:=HSZ.out;have HE:=ah (Csv.esc_length f);cases sp with
    |true=>
     have HPF:Hid (Csv.printF f=[34]++Csv.esc f++[34]):=by refine ah ?_;rw[Csv.printF,rY HSP.out];rfl
     go_wp2_with (at_builtin;refine wpList_append_bytes rfl (.tmp 77) (.tmp 78) rfl w.heap.size (.slice A5 ac1.length c5) ac1 wr rfl HB1.out [34] [.int .u8 34] bc34 1 rfl rfl (by rw[HAC.out];simp;omega) (by decide) hB1 ?_)
     intro v6 w6 hown6 _ hbel6;have HO6:=ah hown6
     have HBE6:Hid (Below w.heap.size w w6):=HBE1.trans hbel6
     clear hown6 hbel6 HB1 HBE1 hB1;obtain⟨A6,c6,e6⟩:=HO6.form
     generalize (ac1++[34]).length=n6 at e6
     subst e6;go_wp2
     go_loopg [4,10] f.length (fun g o i wx=> ∃(q:Nat) (ac2:Csv.F),q+g=f.length/\i=.int .i64 q/\Below w.heap.size w wx/\OwnB w.heap.size o ac2 wx/\ac1++[34]++Csv.esc f=ac2++Csv.esc (f.drop q))
     case atStart=>exact⟨0,_,by omega,rfl,HBE6.out,HO6.out,by simp⟩
     obtain⟨q,ac2,hq,rfl,hbel,hown,hes⟩:=hrel;have HQ:=ah hq;have HB2:=ah hown
     have HES:=ah hes;have HBEL2:=ah hbel;have hB2:=hbel.size
     have hlen2:ac2.length<=ac1.length+1+2*f.length:=by
      have h1:=uo List.length HES.out;have h2:=HE.out;simp at h1;omega
     have hac2:ac2.length+2<1073741824:=by rw[HAC.out]at hlen2;have:=HLF.out;simp at hlen2;omega
     clear hq hown hes hbel HO6 HBE6 hlen2;obtain⟨A7,c7,rfl⟩:=HB2.form;cases gk with
     |zero=>
      have hqf:q=f.length:=by have:=HQ.out;omega
      have HES2:Hid (ac1++[34]++Csv.esc f=ac2):=by
       refine ah ?_;rw[HES.out,hqf,uq (rM _)];simp[Csv.esc]
      obtain rfl:lf=q:=by rw[hqf];exact HLF.symm
      clear hqf
      go_wp2_with (at_builtin;refine wpList_append_bytes rfl (.tmp 100) (.tmp 101) rfl w.heap.size (.slice A7 ac2.length c7) ac2 wr rfl HB2.out [34] [.int .u8 34] bc34 1 rfl rfl (by omega) (by decide) hB2 ?_)
      intro v8 w8 hown8 _ hbel8
      have HKK2:=ah (HKK.out (ac2++[34]) (by rw[<-HES2.out,HPF.out,HAC.out];simp))
      have HO8:=ah hown8;have HBE8:Hid (Below w.heap.size w w8):=HBEL2.trans hbel8
      clear hown8 hbel8;go_wp2
      go_roundg g'
      case measure=>omega
      exact⟨j+1,_,by have:=HJ.out;omega,by go_num,HBE8.out,HO8.out,HKK2.out.1,HKK2.out.2⟩
     |succ g4=>
      have hqs:q<sf.size:=by rw[HSZ.out];have:=HQ.out;have:=HLF.out;omega
      obtain⟨y,hy⟩:=aj (sf[q]'hqs);have hql:(q:Int)<lf:=by have:=HSZ.out;omega
      have HT:Hid (Csv.esc (f.drop q)=(if y=34 then[34,34] else[y])++Csv.esc (f.drop (q+1))):=by
       refine ah ?_;have h1:=Lib.data_getElem? sf q hqs;rw[HSF.out,hy]at h1
       obtain⟨h2,h3⟩:=rZ.1 h1;rw[tJ h2,esc_cons,h3]
      have h0:(0:Int)<=(y.toNat:Int):=by omega
      by_cases hy34:y=34
      ·subst hy34
       have HES3:Hid (ac1++[34]++Csv.esc f=ac2++[34]++[34]++Csv.esc (f.drop (q+1))):=by
        refine ah ?_;rw[HES.out,HT.out,rY rfl];simp
       go_wp2_with (at_builtin;refine wpList_append_bytes rfl (.tmp 90) (.tmp 91) rfl w.heap.size (.slice A7 ac2.length c7) ac2 wr rfl HB2.out [34] [.int .u8 34] bc34 1 rfl rfl (by omega) (by decide) hB2 ?_)
       intro v9 w9 hown9 _ hbel9;have HO9:=ah hown9
       have HBE9:Hid (Below w.heap.size w w9):=HBEL2.trans hbel9;clear hown9 hbel9
       obtain⟨A9,c9,rfl⟩:=HO9.form;have hB9:=HBE9.size
       go_wp2_with (at_builtin;refine wpList_append_bytes rfl (.tmp 93) (.tmp 97) rfl w.heap.size (.slice A9 (ac2++[34]).length c9) (ac2++[34]) w9 rfl HO9.out [34] [.int .u8 34] bc34 1 rfl rfl (by simp;omega) (by decide) hB9 ?_)
       intro v10 w10 hown10 _ hbel10;have HO10:=ah hown10
       have HBE10:Hid (Below w.heap.size w w10):=HBE9.trans hbel10;clear hown10 hbel10
       go_wp2
       go_roundg g4
       case measure=>omega
       exact⟨q+1,_,by have:=HQ.out;omega,by go_num,HBE10.out,HO10.out,by rw[HES3.out];try simp only[sV,uG,tY]⟩
      have hne:((y.toNat:Int) == 34)=false:=by
       refine rX.2 (fun e=>hy34 (yE ?_))
       show y.toNat=34
       omega
      have HES3:Hid (ac1++[34]++Csv.esc f=ac2++[y]++Csv.esc (f.drop (q+1))):=by
       refine ah ?_;rw[HES.out,HT.out,rU hy34];simp
      clear hy34
      go_wp2_with (at_builtin;refine wpList_append_bytes rfl (.tmp 93) (.tmp 97) rfl w.heap.size (.slice A7 ac2.length c7) ac2 wr rfl HB2.out [y] [.int .u8 (y.toNat:Int)] (byteCells_one y).symm 1 rfl rfl (by omega) (by decide) hB2 ?_)
      intro v10 w10 hown10 _ hbel10;have HO10:=ah hown10
      have HBE10:Hid (Below w.heap.size w w10):=HBEL2.trans hbel10;clear hown10 hbel10
      go_wp2
      go_roundg g4
      case measure=>omega
      exact⟨q+1,_,by have:=HQ.out;omega,by go_num,HBE10.out,HO10.out,by rw[HES3.out];try simp only[sV,uG,tY]⟩
    |false=>
     have HPF:Hid (Csv.printF f=Csv.esc f):=by refine ah ?_;rw[Csv.printF,rU (by rw[HSP.out];simp),Csv.esc_plain f HSP.out]
     have HB1':Hid (OwnB w.heap.size (.slice A5 ac1.length c5) (ac1++[]) wr):=by rw[tC];exact HB1
     go_wp2
     go_loopg [4,10] f.length (fun g o i wx=> ∃(q:Nat) (ac2:Csv.F),q+g=f.length/\i=.int .i64 q/\Below w.heap.size w wx/\OwnB w.heap.size o ac2 wx/\ac1++[]++Csv.esc f=ac2++Csv.esc (f.drop q))
     case atStart=>exact⟨0,_,by omega,rfl,HBE1.out,HB1'.out,by simp⟩
     obtain⟨q,ac2,hq,rfl,hbel,hown,hes⟩:=hrel;have HQ:=ah hq;have HB2:=ah hown
     have HES:=ah hes;have HBEL2:=ah hbel;have hB2:=hbel.size
     have hlen2:ac2.length<=ac1.length+1+2*f.length:=by
      have h1:=uo List.length HES.out;have h2:=HE.out;simp at h1;omega
     have hac2:ac2.length+2<1073741824:=by rw[HAC.out]at hlen2;have:=HLF.out;simp at hlen2;omega
     clear hq hown hes hbel HB1 HB1' HBE1 hB1 hlen2;obtain⟨A7,c7,rfl⟩:=HB2.form
     cases gk with
     |zero=>
      have hqf:q=f.length:=by have:=HQ.out;omega
      have HES2:Hid (ac1++[]++Csv.esc f=ac2):=by
       refine ah ?_;rw[HES.out,hqf,uq (rM _)];simp[Csv.esc]
      obtain rfl:lf=q:=by rw[hqf];exact HLF.symm
      clear hqf;have HKK2:=ah (HKK.out ac2 (by rw[<-HES2.out,HPF.out,HAC.out];simp))
      go_wp2
      go_roundg g'
      case measure=>omega
      exact⟨j+1,_,by have:=HJ.out;omega,by go_num,HBEL2.out,HB2.out,HKK2.out.1,HKK2.out.2⟩
     |succ g4=>
      have hqs:q<sf.size:=by rw[HSZ.out];have:=HQ.out;have:=HLF.out;omega
      obtain⟨y,hy⟩:=aj (sf[q]'hqs);have hql:(q:Int)<lf:=by have:=HSZ.out;omega
      have HT:Hid (Csv.esc (f.drop q)=(if y=34 then[34,34] else[y])++Csv.esc (f.drop (q+1))):=by
       refine ah ?_;have h1:=Lib.data_getElem? sf q hqs;rw[HSF.out,hy]at h1
       obtain⟨h2,h3⟩:=rZ.1 h1;rw[tJ h2,esc_cons,h3]
      have h0:(0:Int)<=(y.toNat:Int):=by omega
      by_cases hy34:y=34
      ·subst hy34
       have HES3:Hid (ac1++[]++Csv.esc f=ac2++[34]++[34]++Csv.esc (f.drop (q+1))):=by
        refine ah ?_;rw[HES.out,HT.out,rY rfl];simp
       go_wp2_with (at_builtin;refine wpList_append_bytes rfl (.tmp 90) (.tmp 91) rfl w.heap.size (.slice A7 ac2.length c7) ac2 wr rfl HB2.out [34] [.int .u8 34] bc34 1 rfl rfl (by omega) (by decide) hB2 ?_)
       intro v9 w9 hown9 _ hbel9;have HO9:=ah hown9
       have HBE9:Hid (Below w.heap.size w w9):=HBEL2.trans hbel9;clear hown9 hbel9
       obtain⟨A9,c9,rfl⟩:=HO9.form;have hB9:=HBE9.size
       go_wp2_with (at_builtin;refine wpList_append_bytes rfl (.tmp 93) (.tmp 97) rfl w.heap.size (.slice A9 (ac2++[34]).length c9) (ac2++[34]) w9 rfl HO9.out [34] [.int .u8 34] bc34 1 rfl rfl (by simp;omega) (by decide) hB9 ?_)
       intro v10 w10 hown10 _ hbel10;have HO10:=ah hown10
       have HBE10:Hid (Below w.heap.size w w10):=HBE9.trans hbel10;clear hown10 hbel10
       go_wp2
       go_roundg g4
       case measure=>omega
       exact⟨q+1,_,by have:=HQ.out;omega,by go_num,HBE10.out,HO10.out,by rw[HES3.out];try simp only[sV,uG,tY]⟩
      have hne:((y.toNat:Int) == 34)=false:=by
       refine rX.2 (fun e=>hy34 (yE ?_))
       show y.toNat=34
       omega
      have HES3:Hid (ac1++[]++Csv.esc f=ac2++[y]++Csv.esc (f.drop (q+1))):=by
       refine ah ?_;rw[HES.out,HT.out,rU hy34];simp
      clear hy34
      go_wp2_with (at_builtin;refine wpList_append_bytes rfl (.tmp 93) (.tmp 97) rfl w.heap.size (.slice A7 ac2.length c7) ac2 wr rfl HB2.out [y] [.int .u8 (y.toNat:Int)] (byteCells_one y).symm 1 rfl rfl (by omega) (by decide) hB2 ?_)
      intro v10 w10 hown10 _ hbel10;have HO10:=ah hown10
      have HBE10:Hid (Below w.heap.size w w10):=HBEL2.trans hbel10;clear hown10 hbel10
      go_wp2
      go_roundg g4
      case measure=>omega
      exact⟨q+1,_,by have:=HQ.out;omega,by go_num,HBE10.out,HO10.out,by rw[HES3.out];try simp only[sV,uG,tY]⟩
   |succ g3=>
    have hqs:q<sf.size:=by rw[HSZ.out];omega
    obtain⟨y,hy⟩:=aj (sf[q]'hqs)
    have HT:Hid ((f.take (q+1)).any Csv.special=((f.take q).any Csv.special || Csv.special y)):=by
     refine ah ?_;have h1:=Lib.data_getElem? sf q hqs;rw[HSF.out,hy]at h1
     obtain⟨h2,h3⟩:=rZ.1 h1;rw[vC h2,h3];simp
    obtain⟨fl,hfl⟩:=aj ((f.take q).any Csv.special);rw[hfl]at HT⊢;have hszz:=HSZ.out
    have hql:(q:Int)<lf:=by omega
    clear hfl;obtain⟨q1,hq1⟩:=aj ((y.toNat:Int) == 34)
    obtain⟨q2,hq2⟩:=aj ((y.toNat:Int) == 44);obtain⟨q3,hq3⟩:=aj ((y.toNat:Int) == 13)
    obtain⟨q4,hq4⟩:=aj ((y.toNat:Int) == 10)
    have HSP:Hid (Csv.special y=(q1 || q2 || q3 || q4)):=by
     refine ah ?_;rw[<-hq1,<-hq2,<-hq3,<-hq4];exact special_bools y
    cases fl with
    |true=>
     go_wp2
     go_roundg g3
     case measure=>omega
     exact⟨q+1,by omega,by go_num,by rw[HT.out,HSP.out];rfl,rfl⟩
    |false=>
     cases q1 with
     |true=>
      go_wp2
      go_roundg g3
      case measure=>omega
      exact⟨q+1,by omega,by go_num,by rw[HT.out,HSP.out];rfl,rfl⟩
     |false=>
      cases q2 with
      |true=>
       go_wp2
       go_roundg g3
       case measure=>omega
       exact⟨q+1,by omega,by go_num,by rw[HT.out,HSP.out];rfl,rfl⟩
      |false=>
       cases q3 with
       |true=>
        go_wp2
        go_roundg g3
        case measure=>omega
        exact⟨q+1,by omega,by go_num,by rw[HT.out,HSP.out];rfl,rfl⟩
       |false=>
        cases q4 with
        |true=>
         go_wp2
         go_roundg g3
         case measure=>omega
         exact⟨q+1,by omega,by go_num,by rw[HT.out,HSP.out];rfl,rfl⟩
        |false=>
         go_wp2
         go_roundg g3
         case measure=>omega
         exact⟨q+1,by omega,by go_num,by rw[HT.out,HSP.out];rfl,rfl⟩
end Go.Proofs.YtanlehkalkafdaaGreatDoor
