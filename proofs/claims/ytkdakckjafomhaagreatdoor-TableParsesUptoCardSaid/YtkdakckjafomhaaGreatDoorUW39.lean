/- Contracts and plain laws,part 39. -/
import Derived.Test.YtkdakckjafomhaaGreatDoorUW38
set_option maxHeartbeats 64000000
set_option maxRecDepth 1000000
set_option linter.all false
namespace Go.Proofs.YtkdakckjafomhaaGreatDoor
open Go.RowKit
def jA (k:Int) (l b:ak.L):Option (ak.L×ak.L):=if k=8 then ak.elem l b else ak.ku l b
def qF (k:Int) (f:Nat) (l:ak.L) (ns:List Int) (ts:List ak.L):ak.V×Nat:=
 if k=8 then(⟨k,0,[],ns,(ak.lK f l ts).1⟩,(ak.lK f l ts).2) else(⟨k,0,[],(ak.kQ (k - 4) f l ns).1,ts⟩,(ak.kQ (k - 4) f l ns).2)
theorem alT {k:Int} {r:ak.L} (h:4<k):ak.iL k r=qF k (r.length+1) r [] []:=by
 unfold ak.iL qF;rw[adk h]
theorem alU (k:Int) (f:Nat) (ns:List Int) (ts:List ak.L):qF k (f+1) [] ns ts=(⟨k,0,[],ns,ts⟩,0):=by
 unfold qF;simp[ak.lK,ak.kQ]
theorem alV {k:Int} {f:Nat} {l:ak.L} {ns:List Int} {ts:List ak.L} (hl:l≠ []) (h:jA k l []=none):(qF k (f+1) l ns ts).2=220:=by
 unfold jA at h;unfold qF
 split at h
 ·rename_i h8
  rw[adk h8];simp[ak.lK,hl,h]
 rename_i h8;rw[ade h8];simp[ak.kQ,hl,h]
theorem alW {f:Nat} {l x r:ak.L} {ns:List Int} {ts:List ak.L} (hl:l≠ []) (h:jA 8 l []=some (x,r)):qF 8 (f+1) l ns ts=qF 8 f r ns (ts++[x]):=by
 unfold jA at h;rw[adk rfl]at h;unfold qF;rw[adk rfl,adk rfl];simp[ak.lK,hl,h]
theorem alX {k:Int} {f:Nat} {l x r:ak.L} {ns:List Int} {ts:List ak.L} (hk:k≠8) (hl:l≠ []) (h:jA k l []=some (x,r)) (hn:(ak.fZ (k - 4) x).2≠0):(qF k (f+1) l ns ts).2=(ak.fZ (k - 4) x).2:=by
 unfold jA at h;rw[ade hk]at h;unfold qF;rw[ade hk];simp[ak.kQ,hl,h,hn]
theorem alY {k:Int} {f:Nat} {l x r:ak.L} {ns:List Int} {ts:List ak.L} (hk:k≠8) (hl:l≠ []) (h:jA k l []=some (x,r)) (hn:(ak.fZ (k - 4) x).2=0):qF k (f+1) l ns ts=qF k f r (ns++[(ak.fZ (k - 4) x).1]) ts:=by
 unfold jA at h;rw[ade hk]at h;unfold qF;rw[ade hk,ade hk];simp[ak.kQ,hl,h,hn]
theorem alZ (k:Int) (b:ak.L):jA k [] b=none:=by
 unfold jA
 split<;>rfl
theorem al0 (k:Int) (l b:ak.L):jA k (59 :: l) b=some (b,l):=by
 unfold jA
 split
 ·exact ak.OD l b
 simp[ak.ku]
theorem al1 {k:Int} {c:UInt8} {l b:ak.L} (h1:c≠59) (h2:k=8->c≠92):jA k (c :: l) b=jA k l (b++[c]):=by
 unfold jA
 split
 ·rename_i h8
  exact ak.elem_cons h1 (h2 h8)
 rw[ak.ku,ade h1]
theorem al2 {d:UInt8} {l b:ak.L} (h:d=92\/d=59):jA 8 (92 :: d :: l) b=jA 8 l (b++[d]):=ak.OE h
theorem al3 {d:UInt8} {l b:ak.L} (h1:d≠92) (h2:d≠59):jA 8 (92 :: d :: l) b=none:=ZH h1 h2
theorem al4 {k:Int} {l x r:ak.L} (h:jA k l []=some (x,r)):x.length+r.length<l.length:=by
 unfold jA at h
 split at h
 ·obtain⟨t,e1,e2⟩:=ak.Jz _ l [] x r (ac4 _) h
  rw[e1,e2]
  have:t.length<=(ak.iw t).length:=by
   clear e1 e2 h
   induction t with
   |nil=>simp
   |cons c t ih=>
    unfold ak.iw
    split
    ·simp only[adQ];omega
    simp only[adQ];omega
  simp only[aex,adf,adQ];omega
 obtain⟨t,e1,e2⟩:=ak.OC l [] x r h;rw[e1,e2];simp only[aex,adf,adQ];omega
theorem al5 {s:ak.L} {k:Int} (h1:1<=k) (h8:k<=8):Lib.hasPrefix s (ak.letter k++[58])=true↔ ∃r,ak.dK s=some (k,r):=by
 rw[ak.Aa]
 constructor
 ·rintro⟨r,rfl⟩
  exact⟨r,ak.Y4 h1 h8 r⟩
 rintro⟨r,h⟩;exact⟨r,(ak.JA h).1⟩
theorem al6 {s H:ByteArray} (hl:H.size<=s.size):((s.extract 0 H.size).toList == H.toList)=Lib.hasPrefix s.data.toList H.data.toList:=by
 rw[agn,ak.Aa,Lib.toList_data,Lib.toList_data,Lib.extract_data,aeI,afA,Lib.size_eq H]
 constructor
 ·intro h
  have h':s.data.toList.take H.data.toList.length=H.data.toList:=by simpa using h
  exact⟨s.data.toList.drop H.data.toList.length,(aeN H.data.toList.length s.data.toList).symm.trans (by rw[h'])⟩
 rintro⟨r,h⟩;rw[h];simp
theorem al7 {s H:ByteArray} (hl:s.size<H.size):Lib.hasPrefix s.data.toList H.data.toList=false:=by
 rw[aqR];intro h;obtain⟨r,hr⟩:=(ak.Aa _ _).1 h;have:=aeH List.length hr
 rw[adf,<-Lib.size_eq,<-Lib.size_eq]at this;omega
theorem al8 (k:Int):(ak.letter k).length<=3:=by unfold ak.letter;split<;>simp
def HeadAt (hd:Option (Int×ak.L)) (n:Nat) (k:Int) (x y:Value):Prop:=
 match hd with
 |none=>x=.int .i64 0/\y=.int .i64 0
 |some (kd,_)=>x=.int .i64 (if kd<k then kd else 0)/\y=.int .i64 (if kd<k then((n:Nat):Int) else 0)
theorem al9 (s:ByteArray) (w:World) (hs:s.size<=1073741823):
  Calls Tryz.prog 92 #[.string s] w (Ik (ak.parse s.data.toList) w):=by
 obtain⟨R,hR⟩:=aj (ak.parse s.data.toList);rw[hR];unfold ak.parse at hR
 obtain⟨W1,hW1⟩:=aj (w.alloc (.cells #[.int .i64 0,.int .i64 0,.string ⟨#[]⟩,.slice none 0 0,.slice none 0 0] 37))
 have hb1:Below w.heap.size w W1:=by rw[<-hW1];exact(Below.refl _ w).alloc (ac4 _) _
 have hz1:W1.heap.size=w.heap.size+1:=by rw[<-hW1];simp
 have k1:au W1 w.heap.size 37 #[.int .i64 0,.int .i64 0,.string ⟨#[]⟩,.slice none 0 0,.slice none 0 0]:=by rw[<-hW1];exact au.new _ _ _
 obtain⟨W2,hW2⟩:=aj (W1.alloc (.cells #[.int .i64 0,.int .i64 0,.string ⟨#[]⟩,.slice none 0 0,.slice none 0 0] 37))
 have hb2:Below W1.heap.size W1 W2:=by rw[<-hW2];exact(Below.refl _ W1).alloc (ac4 _) _
 have hz2:W2.heap.size=W1.heap.size+1:=by rw[<-hW2];simp
 have k2:au W2 W1.heap.size 37 #[.int .i64 0,.int .i64 0,.string ⟨#[]⟩,.slice none 0 0,.slice none 0 0]:=by rw[<-hW2];exact au.new _ _ _
 have HW1:=ah hW1;have HW2:=ah hW2;have HB2:=ah (hb1.trans (hb2.mono (by omega)))
 have aY:=ah (k1.below hb2 (by omega))
 have tu:=ah k2;have hw2:w.heap.size+2=W2.heap.size:=by omega
 have hw1:w.heap.size+1=W1.heap.size:=by omega
 have QL:=ah (⟨hw1,hw2⟩:_/\_);clear hW1 hW2 hb1 hb2 hz1 hz2 k1 k2 hw1 hw2;have hu:=lM
 have KU: ∀(W:World) (x:Array Value) (tmps:Array Value) (er:Nat),R=(ak.V0,er)->Below w.heap.size w W->au W w.heap.size 37 #[.int .i64 0,.int .i64 0,.string ⟨#[]⟩,.slice none 0 0,.slice none 0 0]->tmps.getD 2 undef=.pointer (some ⟨w.heap.size,0,none⟩)->tmps.getD 3 undef=.int .i64 er->
   bodyPost Tryz.prog Tryz.f92 (Ik R w) .ret {tmps:=tmps,defers:=[]} (((((W.setCell ⟨w.heap.size,0,none⟩ (.int .i64 0)).setCell ⟨w.heap.size,1,none⟩ (.int .i64 0)).setCell ⟨w.heap.size,2,none⟩ (.string ⟨#[]⟩)).setCell ⟨w.heap.size,3,none⟩ (.slice none 0 0)).setCell ⟨w.heap.size,4,none⟩ (.slice none 0 0)):=by
  intro W x tmps er hr hb hk h2 h3;refine O8 Tryz.results92 h2 h3 (JH hk _ _ _ _ _) ?_
  exact⟨_,by rw[hr],by rw[hr];exact ZO _ _,hb.grown (JI W w.heap.size _ _ _ _ _) hb.size (fun j e=>by cases e;omega)⟩
 have hok: ∀(W:World) (tmps:Array Value) (v:ak.V) (s t:Value),R=(v,0)->Below w.heap.size w W->au W w.heap.size 37 #[.int .i64 0,.int .i64 0,.string ⟨#[]⟩,.slice none 0 0,.slice none 0 0]->mP W w.heap.size (.agg #[.int .i64 v.kind,.int .i64 v.num,.string ⟨v.text.toArray⟩,s,t]) v->tmps.getD 2 undef=.pointer (some ⟨w.heap.size,0,none⟩)->tmps.getD 3 undef=.int .i64 0->
   bodyPost Tryz.prog Tryz.f92 (Ik R w) .ret {tmps:=tmps,defers:=[]} (((((W.setCell ⟨w.heap.size,0,none⟩ (.int .i64 v.kind)).setCell ⟨w.heap.size,1,none⟩ (.int .i64 v.num)).setCell ⟨w.heap.size,2,none⟩ (.string ⟨v.text.toArray⟩)).setCell ⟨w.heap.size,3,none⟩ s).setCell ⟨w.heap.size,4,none⟩ t):=by
  intro W tmps v s t hr hb hk hv h2 h3;obtain⟨s',t',e,o1,o2⟩:=hv.ex
  have es:s=s':=by injection e with e;simp at e;exact e.1
  have et:t=t':=by injection e with e;simp at e;exact e.2
  subst es et
  have hon:=JI W w.heap.size (.int .i64 v.kind) (.int .i64 v.num) (.string ⟨v.text.toArray⟩) s t
  have nt: ∀{e:TypeId},e≠37-> ∀g c t fz,some w.heap.size=some g->W.heap[g]?=some (.cells c t fz)->t≠e:=fun he g c t fz e hc=>by
   cases e;unfold au at hk;rw[hk]at hc;cases hc;exact Ne.symm he
  refine O8 Tryz.results92 h2 h3 (JH hk _ _ _ _ _) ?_
  exact⟨_,by rw[hr];rfl,by rw[hr];exact⟨_,_,rfl,aW o1 hon (nt (by decide)),aW o2 hon (nt (by decide))⟩,hb.grown hon hb.size (fun j e=>by cases e;omega)⟩
 have aV:=ah hok;clear hok;have kX:=ah KU;clear KU
 obtain⟨hd,hhd⟩:=aj (ak.dK s.data.toList);rw[hhd]at hR
 have X5:=fun(k:Int) (h1:1<=k) (h8:k<=8)=>al5 (s:=s.data.toList) h1 h8
 rw[hhd]at X5;have hsome:=fun(k:Int) (r:ak.L) (h:hd=some (k,r))=>ak.JA (hhd.trans h)
 obtain⟨n,hn⟩: ∃n:Nat,∀k r,hd=some (k,r)->n=(ak.letter k++[58]).length:=by
  cases hd with
  |none=>exact⟨0,fun k r h=>by cases h⟩
  |some kr=>exact⟨(ak.letter kr.1++[58]).length,fun k r h=>by cases h;rfl⟩
 have afL:=ah X5;have X6:=ah hsome;have HN:=ah hn;have HR:=ah hR;clear X5 hsome hn hR hhd
 have hsi:(s.size:Int)<=1073741823:=by omega
 go_enter Tryz.func92,Tryz.ntmps92
 go_upto_region 1 with fail
 rw[HW1.out];clear HW1
 go_upto_region 2 with fail
 rw[HW2.out];clear HW2;go_wp2_with fail
 go_loopg [5,6,7] 8 (fun g x y z wx=> ∃k:Nat,1<=k/\k+g=9/\z=.int .i64 k/\HeadAt hd n k x y/\W2=wx)
 case atStart=>
  refine⟨1,by omega,by omega,rfl, ?_,rfl⟩
  unfold HeadAt;cases hd with
  |none=>exact⟨rfl,rfl⟩
  |some kr=>
   obtain⟨kd,r⟩:=kr;have:=(X6.out kd r rfl).2.1;have hn: ¬kd<((1:Nat):Int):=by omega
   show(Value.int .i64 0=.int .i64 (if kd<((1:Nat):Int) then kd else 0))/\(Value.int .i64 0=.int .i64 (if kd<((1:Nat):Int) then((n:Nat):Int) else 0))
   rw[ade hn,ade hn];exact⟨rfl,rfl⟩
 obtain⟨k,hk1,hk,rfl,hat,rfl⟩:=hrel;cases gk with
 |succ g=>
  have hlt:k<9:=by omega
  have adq:(k:Int)<9:=by omega
  have hlo:(1:Int)<=k:=by omega
  have hhi:(k:Int)<=8:=by omega
  have HL:=ah (alS k W2 hlo hhi);have htk:=afL.out k hlo hhi
  obtain⟨L,hL⟩:=aj (⟨(ak.letter k).toArray⟩:ByteArray)
  have NT:L.data.toList=ak.letter k:=by rw[<-hL]
  have hLs:L.size<=3:=by rw[Lib.size_eq,NT];exact al8 _
  obtain⟨H,hH⟩:=aj (L ++⟨#[58]⟩:ByteArray)
  have hHd:H.data.toList=ak.letter k++[58]:=by rw[<-hH,ByteArray.data_append,Array.toList_append,NT]
  have hHs:H.size<=4:=by rw[<-hH,aol];show L.size+1<=4;omega
  have hnk: ∀r,hd=some ((k:Int),r)->n=H.size:=fun r h=>by rw[HN.out k r h,Lib.size_eq,hHd]
  rw[hL]at HL;rw[<-hHd]at htk;have hshort:=fun h=>al7 (s:=s) (H:=H) h
  have hbeq:=fun h=>al6 (s:=s) (H:=H) h
  have HAT:=ah hat;have FH:=ah hk
  have hif: ∀(kd:Int) (a:Int),kd≠k->(if kd<((k+1:Nat):Int) then a else 0)=if kd<(k:Int) then a else 0:=fun kd a h=>by
   by_cases h2:kd<(k:Int)
   ·rw[adk h2,adk (by omega)]
   rw[ade h2,ade (by omega)]
  have hno:(¬ ∃r,hd=some ((k:Int),r))-> ∀x y,HeadAt hd n k x y->HeadAt hd n (k+1:Nat) x y:=fun h x y ha=>by
   unfold HeadAt at ha⊢;cases hd with
   |none=>exact ha
   |some kr=>
    obtain⟨kd,r⟩:=kr;have hne:kd≠k:=fun e=>h ⟨r,by rw[e]⟩
    simp only at ha⊢;rw[hif kd _ hne,hif kd _ hne];exact ha
  by_cases hsz:H.size<=s.size
  ·have t1:decide (H.size<=s.size)=true:=adb hsz
   have hb:=hbeq hsz;obtain⟨z,hz⟩:=aj (s.extract 0 H.size);rw[hz]at hb
   by_cases hp: ∃r,hd=some ((k:Int),r)
   ·rw[htk.2 hp]at hb
    have DR:HeadAt hd n (k+1:Nat) (.int .i64 (k:Int)) (.int .i64 (H.size:Int)):=by
     obtain⟨r,e⟩:=hp;unfold HeadAt;rw[e];simp only
     rw[adk (by omega),adk (by omega),hnk r e]
     exact⟨rfl,rfl⟩
    have HA2:=ah DR;have afM:(H.size:Int)<=s.size:=by omega
    clear DR hat hk htk hnk hshort hbeq hif hno hp hHd hL NT;go_wp2_with fail
    refine HL.mono ?_;rintro e w' ⟨rfl,rfl⟩;go_wp2
    go_roundg g
    case measure=>omega
    exact⟨k+1,by omega,by have:=FH.out;omega,int_eq' (by omega),HA2.out,rfl⟩
   have hpf:Lib.hasPrefix s.data.toList H.data.toList=false:=by
    rw[aqR];intro h;exact hp (htk.1 h)
   rw[hpf]at hb;have HA2:=ah (hno hp _ _ hat);have afM:(H.size:Int)<=s.size:=by omega
   clear hat hk htk hnk hshort hbeq hif hno hp hHd hpf hL NT;go_wp2_with fail
   refine HL.mono ?_;rintro e w' ⟨rfl,rfl⟩;go_wp2
   go_roundg g
   case measure=>omega
   exact⟨k+1,by omega,by have:=FH.out;omega,int_eq' (by omega),HA2.out,rfl⟩
  have t1:decide (H.size<=s.size)=false:=ac5 hsz
  have hp: ¬ ∃r,hd=some ((k:Int),r):=fun h=>by
   have:=htk.2 h;rw[hshort (by omega)]at this
   cases this
  have HA2:=ah (hno hp _ _ hat);have afM:(s.size:Int)<H.size:=by omega
  clear hat hk htk hnk hshort hbeq hif hno hp hHd hsz hL NT;go_wp2_with fail
  refine HL.mono ?_;rintro e w' ⟨rfl,rfl⟩;go_wp2
  go_roundg g
  case measure=>omega
  exact⟨k+1,by omega,by have:=FH.out;omega,int_eq' (by omega),HA2.out,rfl⟩
 |zero=>
  obtain rfl:k=9:=by omega
  clear hk hk1;cases hd with
  |none=>
   obtain⟨rfl,rfl⟩:=hat;have hr:R=(ak.V0,220):=HR.symm;have HRR:=ah hr
   obtain⟨a0,a1,a2,a3,a4,f0,f1,f2,f3,f4⟩:=aU aY.out;obtain⟨b0,b1,b2,b3,b4,-⟩:=aU tu.out
   clear hr;go_wp2;exact kX.out _ #[] _ 220 HRR.out HB2.out aY.out rfl rfl
  |some kr=>
   obtain⟨kd,r⟩:=kr;obtain⟨hse,h1,h8⟩:=X6.out kd r rfl;have hnn:=HN.out kd r rfl
   have DR:u5=.int .i64 kd/\u6=.int .i64 (n:Int):=by
    have e9:kd<((9:Nat):Int):=by omega
    obtain⟨e1,e2⟩:=hat;rw[adk e9]at e1 e2;exact⟨e1,e2⟩
   obtain⟨rfl,rfl⟩:=DR;have hns:n+r.length=s.size:=by rw[hnn,Lib.size_eq,hse,<-adf]
   have hrest:(s.extract n s.size).data.toList=r:=by rw[extract_drop,hse,hnn,ang]
   obtain⟨z,hz⟩:=aj (s.extract n s.size);rw[hz]at hrest
   have hzs:z.size<=1073741823:=by rw[Lib.size_eq,hrest];omega
   have iH:=HR.out;simp only at iH;have kC:=ZN h1 h8 (show r.length<=1073741823 by omega)
   obtain⟨W3,hW3⟩:=aj (W2.alloc (.cells #[.int .i64 kd,.int .i64 0,.string ⟨#[]⟩,.slice none 0 0,.slice none 0 0] 37))
   have hb3:Below W2.heap.size W2 W3:=by rw[<-hW3];exact(Below.refl _ W2).alloc (ac4 _) _
   have hz3:W3.heap.size=W2.heap.size+1:=by rw[<-hW3];simp
   have c3:au W3 W2.heap.size 37 #[.int .i64 kd,.int .i64 0,.string ⟨#[]⟩,.slice none 0 0,.slice none 0 0]:=by rw[<-hW3];exact au.new _ _ _
   have uO:Hid (oI W2.heap.size W2 kd (.slice none 0 0) (.slice none 0 0) [] [] W3):=⟨c3,World.ownsRow_nil _ _ _ _,World.ownsRow_nil _ _ _ _,hb3,by omega⟩
   have HR0:=ah iH;have vJ:=ah kC;have X7:=ah hrest;have vZ:=ah hns;have HW3:=ah hW3
   have pJ:=ah (⟨hse,hnn⟩:_/\_);have hw2:w.heap.size<=W2.heap.size:=HB2.size
   have hk2:w.heap.size<W2.heap.size:=aY.lt;have hn2:W1.heap.size<W2.heap.size:=tu.lt
   have hni:n<=s.size:=by omega
   clear hat hse hnn hns hrest iH kC hW3 hb3 c3 hz3 HR afL X6 HN QL
   have t0:(kd == 0)=false:=adh.2 (by omega)
   go_upto_region 12 with fail
   rw[HW3.out];clear HW3 t0;have BO:(n:Int)<=s.size:=by omega
   by_cases h4:kd<4
   ·have d3:decide (kd<4)=true:=adb h4
    have Vt:(kd == 4)=false:=adh.2 (by omega)
    have d4:decide (4<kd)=false:=ac5 (by omega)
    have hbody:ak.iL kd r=(⟨kd,(ak.fZ kd r).1,[],[],[]⟩,(ak.fZ kd r).2):=by
     unfold ak.iL;rw[ade (by omega),ade (by omega)]
    have hnum:=acQ kd z W3 h1 (by omega) (by omega)
    rw[X7.out]at hnum;have iH:=HR0.out;have hvk:=vJ.out;rw[hbody]at iH hvk
    obtain⟨P,hP⟩:=aj (ak.fZ kd r);rw[hP]at hnum iH hvk;obtain⟨m,er⟩:=P
    have uy:=ah (show Calls Tryz.prog 141 #[.int .i64 kd,.string z] W3 fun e w'=>e=.returned (.tuple #[.int .i64 m,.int .i64 er])/\Below W3.heap.size W3 w' from hnum)
    have HR1:=ah iH;have X8:=ah hvk;have d4i:kd<=4:=by omega
    clear hbody hnum iH hvk hP h4 HR0 vJ;go_wp2_with fail;refine uy.mono ?_
    rintro e w4 ⟨rfl,hb4⟩;have Js:=uO.below hb4;have HB4:=ah (HB2.trans (Js.bel.mono hw2))
    have eY:=ah (aY.below Js.bel hk2);have HN4:=ah (tu.below Js.bel hn2)
    have HC4:=ah Js.fG;have hbig:=Js.big;clear hb4 Js;by_cases he:er=0
    ·subst he
     have hrr:=HR1.out;rw[ade (by simp)]at hrr
     obtain⟨W5,bZ⟩:=aj (w4.setCell ⟨W2.heap.size,1,none⟩ (.int .i64 m))
     have hb5:Below W2.heap.size w4 W5:=by rw[<-bZ];exact(Below.refl _ w4).setCell (p:=⟨W2.heap.size,1,none⟩) (ac4 _) _
     have c5:au W5 W2.heap.size 37 #[.int .i64 kd,.int .i64 m,.string ⟨#[]⟩,.slice none 0 0,.slice none 0 0]:=by rw[<-bZ];exact au.cast (HC4.bP 1 _) (by simp)
     have pK:=ah (HB4.trans (hb5.mono hw2));have rO:=ah (eY.below hb5 hk2)
     have gW:=ah (HN4.below hb5 hn2);have yQ:=ah c5
     have sS:Hid (mP W5 w.heap.size (.agg #[.int .i64 kd,.int .i64 m,.string ⟨#[]⟩,.slice none 0 0,.slice none 0 0]) ⟨kd,m,[],[],[]⟩):=⟨_,_,rfl,World.ownsRow_nil _ _ _ _,World.ownsRow_nil _ _ _ _⟩
     have AU:=ah (X8.out rfl);have iI:=ah hrr;have jH:=ah bZ
     obtain⟨b0,b1,b2,b3,b4,g0,g1,g2,g3,g4⟩:=aU HC4.out;clear hrr bZ hb5 c5
     go_upto_region 17 with fail
     rw[jH.out];clear jH b0 b1 b2 b3 b4 g0 g1 g2 g3 g4;go_wp2_with fail
     go_loopg [6] 0 (fun g x wr=>x=.int .i64 (n:Int)/\W5=wr/\g=0)
     case atStart=>exact⟨rfl,rfl,rfl⟩
     obtain⟨rfl,rfl,hg0⟩:=hrel;cases gk with
     |succ g=>omega
     |zero=>
      have iV:=JJ W5.heap.size _ ⟨kd,m,[],[],[]⟩ W5 (sS.IY AU.out) (ac4 _)
      have hrr:=iI.out;obtain⟨cv,hcv⟩:=aj (ak.check ⟨kd,m,[],[],[]⟩)
      rw[hcv]at iV hrr;have bf:=ah iV;obtain⟨b0,b1,b2,b3,b4,-⟩:=aU yQ.out;clear iV hcv
      go_wp2_with fail;refine bf.mono ?_;rintro e wz ⟨rfl,hbz⟩
      have oW:=ah (pK.trans (hbz.mono pK.size));have jL:=ah (rO.below hbz rO.lt)
      have yF:=ah (gW.below hbz gW.lt);have jM:=ah (yQ.below hbz yQ.lt)
      have xP:=ah (sS.below hbz);clear hbz b0 b1 b2 b3 b4
      obtain⟨a0,a1,a2,a3,a4,f0,f1,f2,f3,f4⟩:=aU jL.out;by_cases hc0:cv=0
      ·subst hc0
       rw[ade (by simp)]at hrr
       have HRR:=ah hrr.symm;obtain⟨b0,b1,b2,b3,b4,-⟩:=aU jM.out;clear hrr;go_wp2
       exact aV.out _ _ ⟨kd,m,[],[],[]⟩ _ _ HRR.out oW.out jL.out xP.out rfl rfl
      rw[adk hc0]at hrr;have HRR:=ah hrr.symm
      have t9:((cv:Int) !=0)=true:=by rw[adY];omega
      obtain⟨b0,b1,b2,b3,b4,-⟩:=aU yF.out;clear hrr hc0;go_wp2
      exact kX.out _ #[] _ cv HRR.out oW.out jL.out rfl rfl
    have hrr:=HR1.out;rw[adk he]at hrr;have HRR:=ah hrr.symm
    have t9:((er:Int) !=0)=true:=by rw[adY];omega
    obtain⟨a0,a1,a2,a3,a4,f0,f1,f2,f3,f4⟩:=aU eY.out
    obtain⟨b0,b1,b2,b3,b4,-⟩:=aU HN4.out;clear hrr he;go_wp2
    exact kX.out _ #[] _ er HRR.out HB4.out eY.out rfl rfl
   have d3:decide (kd<4)=false:=ac5 h4;have I4:4<=kd:=by omega
   by_cases iU:kd=4
   ·subst iU
    have hbody:ak.iL 4 r=(⟨4,0,r,[],[]⟩,0):=by
     unfold ak.iL;rw[ade (by omega),adk rfl]
    have hrr:=HR0.out;have hvk:=vJ.out;rw[hbody]at hrr hvk;simp only at hrr
    rw[ade (by simp)]at hrr
    have d4:decide ((4:Int)<4)=false:=rfl;obtain rfl:z=⟨r.toArray⟩:=by rw[<-X7.out]
    obtain⟨W5,bZ⟩:=aj (W3.setCell ⟨W2.heap.size,2,none⟩ (.string ⟨r.toArray⟩))
    have hb5:Below W2.heap.size W3 W5:=by rw[<-bZ];exact(Below.refl _ W3).setCell (p:=⟨W2.heap.size,2,none⟩) (ac4 _) _
    have c5:au W5 W2.heap.size 37 #[.int .i64 4,.int .i64 0,.string ⟨r.toArray⟩,.slice none 0 0,.slice none 0 0]:=by rw[<-bZ];exact au.cast (uO.fG.bP 2 _) (by simp)
    have RQ:=uO.bel.trans hb5;have pK:=ah (HB2.trans (RQ.mono hw2))
    have rO:=ah (aY.below RQ hk2);have gW:=ah (tu.below RQ hn2);have yQ:=ah c5
    have sS:Hid (mP W5 w.heap.size (.agg #[.int .i64 4,.int .i64 0,.string ⟨r.toArray⟩,.slice none 0 0,.slice none 0 0]) ⟨4,0,r,[],[]⟩):=⟨_,_,rfl,World.ownsRow_nil _ _ _ _,World.ownsRow_nil _ _ _ _⟩
    have AU:=ah (hvk rfl);have iI:=ah hrr;have jH:=ah bZ
    obtain⟨b0,b1,b2,b3,b4,g0,g1,g2,g3,g4⟩:=aU uO.fG
    clear hbody hrr hvk bZ hb5 c5 RQ HR0 vJ h4
    go_upto_region 19 with fail
    rw[jH.out];clear jH b0 b1 b2 b3 b4 g0 g1 g2 g3 g4;go_wp2_with fail
    go_loopg [6] 0 (fun g x wr=>x=.int .i64 (n:Int)/\W5=wr/\g=0)
    case atStart=>exact⟨rfl,rfl,rfl⟩
    obtain⟨rfl,rfl,hg0⟩:=hrel;cases gk with
    |succ g=>omega
    |zero=>
     have iV:=JJ W5.heap.size _ ⟨4,0,r,[],[]⟩ W5 (sS.IY AU.out) (ac4 _);have hrr:=iI.out
     obtain⟨cv,hcv⟩:=aj (ak.check ⟨4,0,r,[],[]⟩);rw[hcv]at iV hrr;have bf:=ah iV
     obtain⟨b0,b1,b2,b3,b4,-⟩:=aU yQ.out;clear iV hcv;go_wp2_with fail;refine bf.mono ?_
     rintro e wz ⟨rfl,hbz⟩;have oW:=ah (pK.trans (hbz.mono pK.size))
     have jL:=ah (rO.below hbz rO.lt);have yF:=ah (gW.below hbz gW.lt)
     have jM:=ah (yQ.below hbz yQ.lt);have xP:=ah (sS.below hbz);clear hbz b0 b1 b2 b3 b4
     obtain⟨a0,a1,a2,a3,a4,f0,f1,f2,f3,f4⟩:=aU jL.out;by_cases hc0:cv=0
     ·subst hc0
      rw[ade (by simp)]at hrr
      have HRR:=ah hrr.symm;obtain⟨b0,b1,b2,b3,b4,-⟩:=aU jM.out;clear hrr;go_wp2
      exact aV.out _ _ ⟨4,0,r,[],[]⟩ _ _ HRR.out oW.out jL.out xP.out rfl rfl
     rw[adk hc0]at hrr;have HRR:=ah hrr.symm
     have t9:((cv:Int) !=0)=true:=by rw[adY];omega
     obtain⟨b0,b1,b2,b3,b4,-⟩:=aU yF.out;clear hrr hc0;go_wp2
     exact kX.out _ #[] _ cv HRR.out oW.out jL.out rfl rfl
   have Vt:(kd == 4)=false:=adh.2 iU;have d4:decide (4<kd)=true:=adb (by omega)
   have h5i:4<kd:=by omega
   have iH:=HR0.out;have hvk:=vJ.out;have hgo:=alT (r:=r) h5i
   obtain⟨BP,hBP⟩:=aj (ak.iL kd r);rw[hBP]at iH hvk hgo
   have hdn:s.data.toList.drop n=r:=by rw[pJ.out.1,pJ.out.2,ang]
   have Jt:Hid (qF kd (r.length+1) (s.data.toList.drop n) [] []=BP):=by rw[hdn];exact hgo.symm
   have HR1:=ah iH;have X8:=ah hvk;have hsr:s.size - n<=r.length:=by have:=vZ.out;omega
   have HBAD:Hid (∀e,e≠0->BP.2=e->R=(ak.V0,e)):=fun e he hb=>by
    have h:=HR1.out;rw[adk (by rw[hb];exact he),hb]at h
    exact h.symm
   clear iH hvk hgo hBP hdn HR0 vJ h4 iU pJ vZ X7 hzs;go_wp2_with fail
   go_loopg [6] r.length (fun g x wr=> ∃(a:Nat) (ns:List Int) (ts:List (List UInt8)) (s' t':Value),x=.int .i64 (a:Int)/\a<=s.size/\s.size - a<=g/\qF kd (g+1) (s.data.toList.drop a) ns ts=BP/\ns.length+ts.length<=a/\oI W2.heap.size W2 kd s' t' ns ts wr)
   case atStart=>exact⟨n,[],[],_,_,rfl,hni,hsr,Jt.out,by simp,uO.out⟩
   clear Jt uO hni BO hsr;obtain⟨a,ns,ts,s',t',rfl,hal,hag,hgo,hnt,hpl⟩:=hrel
   obtain⟨As,cs,rfl⟩:=aF hpl.own;obtain⟨At,ct,rfl⟩:=aF hpl.owt;have HQ:=ah hpl
   have hbig:=hpl.big;have aqv:(a:Int)<=s.size:=by omega
   clear hpl;by_cases hend:a=s.size
   ·subst hend
    rw[aeJ (by rw[<-Lib.size_eq];exact ac4 _),alU]at hgo
    subst hgo;have hrr:=HR1.out;have hvk:=X8.out rfl;simp only at hrr hvk
    rw[ade (by simp)]at hrr
    have pK:=ah (HB2.trans (HQ.bel.mono hw2));have rO:=ah (aY.below HQ.bel hk2)
    have gW:=ah (tu.below HQ.bel hn2);have yQ:=ah HQ.fG
    have sS:Hid (mP wr w.heap.size (.agg #[.int .i64 kd,.int .i64 0,.string ⟨#[]⟩,.slice As ns.length cs,.slice At ts.length ct]) ⟨kd,0,[],ns,ts⟩):=⟨_,_,rfl,iy HQ.own (by omega),iy HQ.owt (by omega)⟩
    have AU:=ah hvk;have iI:=ah hrr;clear hrr hvk hag hnt
    have iV:=JJ wr.heap.size _ ⟨kd,0,[],ns,ts⟩ wr (sS.IY AU.out) (ac4 _);have hrr:=iI.out
    obtain⟨cv,hcv⟩:=aj (ak.check ⟨kd,0,[],ns,ts⟩);rw[hcv]at iV hrr;have bf:=ah iV
    obtain⟨b0,b1,b2,b3,b4,-⟩:=aU yQ.out;clear iV hcv;go_wp2_with fail;refine bf.mono ?_
    rintro e wz ⟨rfl,hbz⟩;have oW:=ah (pK.trans (hbz.mono pK.size))
    have jL:=ah (rO.below hbz rO.lt);have yF:=ah (gW.below hbz gW.lt)
    have jM:=ah (yQ.below hbz yQ.lt);have xP:=ah (sS.below hbz);clear hbz b0 b1 b2 b3 b4
    obtain⟨a0,a1,a2,a3,a4,f0,f1,f2,f3,f4⟩:=aU jL.out;by_cases hc0:cv=0
    ·subst hc0
     rw[ade (by simp)]at hrr
     have HRR:=ah hrr.symm;obtain⟨b0,b1,b2,b3,b4,-⟩:=aU jM.out;clear hrr;go_wp2
     exact aV.out _ _ ⟨kd,0,[],ns,ts⟩ _ _ HRR.out oW.out jL.out xP.out rfl rfl
    rw[adk hc0]at hrr;have HRR:=ah hrr.symm
    have t9:((cv:Int) !=0)=true:=by rw[adY];omega
    obtain⟨b0,b1,b2,b3,b4,-⟩:=aU yF.out;clear hrr hc0;go_wp2
    exact kX.out _ #[] _ cv HRR.out oW.out jL.out rfl rfl
   have hlt:a<s.size:=by omega
   have adq:(a:Int)<s.size:=by omega
   cases gk with
   |zero=>omega
   |succ g=>
    have hl:s.data.toList.drop a≠ []:=fun e=>by
     have:=aeH List.length e;rw[aej,<-Lib.size_eq,ae8]at this;omega
    obtain⟨ER,X9⟩:=aj (jA kd (s.data.toList.drop a) [])
    have hnone:ER=none->BP.2=220:=fun e=>by rw[<-hgo];exact alV hl (X9.trans e)
    have Ya:=ah hnone;have Jt:=ah hgo;have DC:=ah X9;have Yb:=ah hl
    have hb1:Below wr.heap.size wr (wr.alloc (.cells #[] 5)):=(Below.refl _ wr).alloc (ac4 _) _
    have hown0:OwnB wr.heap.size (.slice (some ⟨wr.heap.size,0,none⟩) 0 0) [] (wr.alloc (.cells #[] 5)):=by unfold OwnB;exact y7 wr wr.heap.size _ 0 #[] (ac4 _) rfl
    have HO0:=ah hown0;have HB0:=ah hb1;have afR:=ah hag;have Cm:=ah hnt
    obtain⟨wo,hwo⟩:=aj wr;rw[hwo]at HO0 HB0 HQ hbig⊢
    clear hnone hgo X9 hl hb1 hown0 hag hnt hwo hend;go_wp2_with fail
    go_loopg [6,12] (s.size - a) (fun g x y wx=> ∃(a':Nat) (acc:List UInt8),x=.int .i64 (a':Int)/\a<=a'/\a'<=s.size/\a'+g=s.size/\acc.length<=a'/\jA kd (s.data.toList.drop a') acc=ER/\OwnB wo.heap.size y acc wx/\Below wo.heap.size wo wx)
    case atStart=>exact⟨a,[],rfl,ac4 _,by omega,by omega,by simp,DC.out,HO0.out,HB0.out⟩
    obtain⟨a',acc,rfl,haa,hal',hag,hacc,her,hown,hbel⟩:=hrel;have hpl:=HQ.below hbel
    have pK:=ah (HB2.trans (hpl.bel.mono hw2));have rO:=ah (aY.below hpl.bel hk2)
    have gW:=ah (tu.below hpl.bel hn2);have xM:=ah hpl;have HOW:=ah hown;have uM:=ah hbel
    have RS:=ah hag;have hwz:=hbel.size;obtain⟨Ab,cb,rfl⟩:=aF hown
    have aqx:(a':Int)<=s.size:=by omega
    have RU:acc.length<1073741824:=by omega
    clear hpl hown hbel;by_cases hend:a'=s.size
    ·subst hend
     rw[aeJ (by rw[<-Lib.size_eq];exact ac4 _),alZ]at her
     have HRR:=ah (HBAD.out 220 (by decide) (Ya.out her.symm))
     obtain⟨a0,a1,a2,a3,a4,f0,f1,f2,f3,f4⟩:=aU rO.out
     obtain⟨b0,b1,b2,b3,b4,-⟩:=aU gW.out;clear her hag;go_wp2
     exact kX.out _ #[] _ 220 HRR.out pK.out rO.out rfl rfl
    have hlt':a'<s.size:=by omega
    have aqy:(a':Int)<s.size:=by omega
    obtain⟨c,hc⟩:=aj (s[a']'hlt');have hdr:=OX hlt';rw[hc]at hdr;rw[hdr]at her
    have hcb:=byte_le c;by_cases DI:c=59
    ·subst DI
     rw[al0]at her;have hx:=DC.trans her.symm;have hlen:=al4 hx
     rw[aej,aej,<-Lib.size_eq]at hlen;by_cases CB:kd=8
     ·subst CB
      have hgo:=Jt.out;rw[alW Yb.out hx]at hgo;have dQ:=ah hgo;have hcv:=HOW.conv
      obtain⟨zx,hzx⟩:=aj (⟨acc.toArray⟩:ByteArray);rw[hzx]at hcv;have VA:=ah hzx
      have hbg:=xM.big;have Qp:=(xM.fG.alloc (.cells #[.string zx] 9)).cell 4;simp at Qp
      have AQ:ts.length<1073741824:=by have:=Cm.out;omega
      obtain⟨b0,b1,b2,b3,b4,-⟩:=aU xM.fG
      have HST:=ah (show s.size -(a'+1)<=g by have:=afR.out;omega)
      clear her hag hx hlen hgo hzx hdr hend
      go_wp2_with (at_builtin;refine fD rfl (.tmp 130) (.tmp 133) 34 9 (.string ⟨#[]⟩) 16 Tryz.underlying34 TI rfl (by decide) rfl (W2.heap.size+1) (.slice At ts.length ct) ts.length _ wr rfl xM.owt (.string zx) rfl rfl AQ hbg ?_)
      intro v9 w9 aJ bI dD aB;obtain⟨A9,c9,rfl⟩:=aF aJ
      obtain⟨d3,FD,hnx⟩:=xM.txt (y:=acc) (by unfold ST;rw[VA.out];exact aJ) bI aB
      have Yc:=ah hnx;clear aJ bI dD aB hnx Qp b0 b1 b2 b3 b4 hcv;go_wp2
      go_roundg g
      case measure=>omega
      exact⟨a'+1,ns,ts++[acc],_,_,int_eq' (by omega),by omega,HST.out,dQ.out,by rw[adf,aeM];have:=Cm.out;omega,Yc.out⟩
     have t8:(kd == 8)=false:=adh.2 CB;have hcv:=HOW.conv
     obtain⟨zx,hzx⟩:=aj (⟨acc.toArray⟩:ByteArray)
     have Yd:zx.data.toList=acc:=by rw[<-hzx]
     have ady:zx.size<=1073741823:=by rw[Lib.size_eq,Yd];omega
     rw[hzx]at hcv;have hnum:=acQ (kd - 4) zx wr (by omega) (by omega) (by omega)
     rw[Yd]at hnum;have hgood:=fun h=>alY (f:=g+1) (ns:=ns) (ts:=ts) CB Yb.out hx h
     have hbad:=fun h=>alX (f:=g+1) (ns:=ns) (ts:=ts) CB Yb.out hx h
     obtain⟨P,hP⟩:=aj (ak.fZ (kd - 4) acc);rw[hP]at hnum hgood hbad;obtain⟨m,er⟩:=P
     have uy:=ah (show Calls Tryz.prog 141 #[.int .i64 (kd - 4),.string zx] wr fun e w'=>e=.returned (.tuple #[.int .i64 m,.int .i64 er])/\Below wr.heap.size wr w' from hnum)
     have aoJ:=ah hgood;have aoK:=ah hbad
     have AQ:ns.length<1073741824:=by have:=Cm.out;omega
     have HST:=ah (show s.size -(a'+1)<=g by have:=afR.out;omega)
     have h7i:kd<=7:=by omega
     clear her hag hx hlen hzx Yd hnum hgood hbad hP hdr hend;go_wp2_with fail
     refine uy.mono ?_;rintro e w8 ⟨rfl,hb8⟩;have xF:=ah (xM.below hb8);clear hb8 hcv
     by_cases he:er=0
     ·subst he
      have hgo:=Jt.out;rw[aoJ.out rfl]at hgo;have dQ:=ah hgo;have hbg:=xF.big
      have zG:=(xF.fG.alloc (.cells #[.int .i64 m] 2)).cell 3;simp at zG
      obtain⟨b0,b1,b2,b3,b4,-⟩:=aU xF.fG;clear hgo
      go_wp2_with (at_builtin;refine fD rfl (.tmp 149) (.tmp 151) 35 2 (.int .i64 0) 8 Tryz.underlying35 TG rfl (by decide) rfl (W2.heap.size+1) (.slice As ns.length cs) ns.length _ w8 rfl xF.own (.int .i64 m) rfl rfl AQ hbg ?_)
      intro v9 w9 aJ bI dD aB;obtain⟨A9,c9,rfl⟩:=aF aJ
      obtain⟨d3,FD,hnx⟩:=xF.num aJ bI aB;have Yc:=ah hnx
      clear aJ bI dD aB hnx zG b0 b1 b2 b3 b4;go_wp2
      go_roundg g
      case measure=>omega
      exact⟨a'+1,ns++[m],ts,_,_,int_eq' (by omega),by omega,HST.out,dQ.out,by rw[adf,aeM];have:=Cm.out;omega,Yc.out⟩
     have HRR:=ah (HBAD.out er he (by rw[<-Jt.out];exact aoK.out he))
     have t9:((er:Int) !=0)=true:=by rw[adY];omega
     have mg:=ah (HB2.trans (xF.bel.mono hw2));have HK8:=ah (aY.below xF.bel hk2)
     obtain⟨a0,a1,a2,a3,a4,f0,f1,f2,f3,f4⟩:=aU HK8.out
     obtain⟨b0,b1,b2,b3,b4,-⟩:=aU (tu.below xF.bel hn2);clear he;go_wp2
     exact kX.out _ #[] _ er HRR.out mg.out HK8.out rfl rfl
    have t59:(((c.toNat:Nat):Int) == 59)=false:=bq (k:=59) rfl (adh.2 DI)
    have aqA:(((c.toNat:Nat):Int) !=59)=true:=by rw[bne,t59];rfl
    cases gk with
    |zero=>omega
    |succ g2=>
    by_cases hq:kd=8/\c=92
    ·obtain⟨rfl,rfl⟩:=hq
     by_cases afT:a'+1=s.size
     ·rw[aeJ (by rw[<-Lib.size_eq];omega)]at her
      have he2:jA 8 [92] acc=none:=by unfold jA;rw[adk rfl];rfl
      rw[he2]at her;have HRR:=ah (HBAD.out 220 (by decide) (Ya.out her.symm))
      have t1:((a':Int)+1 == s.size)=true:=by rw[aeI];omega
      obtain⟨a0,a1,a2,a3,a4,f0,f1,f2,f3,f4⟩:=aU rO.out
      obtain⟨b0,b1,b2,b3,b4,-⟩:=aU gW.out;clear her hag he2 hdr hend;go_wp2
      exact kX.out _ #[] _ 220 HRR.out pK.out rO.out rfl rfl
     have hlt1:a'+1<s.size:=by omega
     have aqB:(a':Int)+1<s.size:=by omega
     have t1:((a':Int)+1 == s.size)=false:=by rw[adh];omega
     obtain⟨d,hd⟩:=aj (s[a'+1]'hlt1);have qg:=OX hlt1;rw[hd]at qg;rw[qg]at her
     have hdb:=byte_le d;by_cases he:d=92\/d=59
     ·rw[al2 he]at her
      have NU:=ah her;have hsz:=uM.size;clear her hdr qg hag hend afT
      rcases he with rfl|rfl
      ·go_wp2_with (at_builtin;refine uV rfl (.tmp 112) (.tmp 116) rfl wo.heap.size (.slice Ab acc.length cb) acc wr rfl HOW.out [92] [.int .u8 92] rfl 1 rfl rfl RU (by decide) hwz ?_)
       intro v9 w9 aG aN aB;have fJ:=ah aG;have bg:=ah (uM.trans aB);clear aG aN aB;go_wp2
       go_roundg (g2 - 1)
       case measure=>omega
       exact⟨a'+2,_,int_eq' (by omega),by omega,by omega,by have:=RS.out;omega,by rw[adf,aeM];omega,NU.out,fJ.out,bg.out⟩
      go_wp2_with (at_builtin;refine uV rfl (.tmp 112) (.tmp 116) rfl wo.heap.size (.slice Ab acc.length cb) acc wr rfl HOW.out [59] [.int .u8 59] rfl 1 rfl rfl RU (by decide) hwz ?_)
      intro v9 w9 aG aN aB;have fJ:=ah aG;have bg:=ah (uM.trans aB);clear aG aN aB;go_wp2
      go_roundg (g2 - 1)
      case measure=>omega
      exact⟨a'+2,_,int_eq' (by omega),by omega,by omega,by have:=RS.out;omega,by rw[adf,aeM];omega,NU.out,fJ.out,bg.out⟩
     simp only[aox]at he;rw[al3 he.1 he.2]at her
     have HRR:=ah (HBAD.out 220 (by decide) (Ya.out her.symm))
     have t3:(((d.toNat:Nat):Int) !=92)=true:=by rw[bne,bq (k:=92) (n:=92) rfl (adh.2 he.1)];rfl
     have t4:(((d.toNat:Nat):Int) !=59)=true:=by rw[bne,bq (k:=59) (n:=59) rfl (adh.2 he.2)];rfl
     obtain⟨a0,a1,a2,a3,a4,f0,f1,f2,f3,f4⟩:=aU rO.out
     obtain⟨b0,b1,b2,b3,b4,-⟩:=aU gW.out;clear her hag hdr qg hend afT he;go_wp2
     exact kX.out _ #[] _ 220 HRR.out pK.out rO.out rfl rfl
    rw[al1 DI (fun CB AO=>hq ⟨CB,AO⟩)]at her
    have NU:=ah her;have hsz:=uM.size;by_cases CB:kd=8
    ·subst CB
     have AO:c≠92:=fun h=>hq ⟨rfl,h⟩
     have t92:(((c.toNat:Nat):Int) == 92)=false:=bq (k:=92) rfl (adh.2 AO)
     clear her hdr hag hend hq AO
     go_wp2_with (at_builtin;refine uV rfl (.tmp 112) (.tmp 116) rfl wo.heap.size (.slice Ab acc.length cb) acc wr rfl HOW.out [c] [.int .u8 (c.toNat:Int)] (byteCells_one _).symm 1 rfl rfl RU (by decide) hwz ?_)
     intro v9 w9 aG aN aB;have fJ:=ah aG;have bg:=ah (uM.trans aB);clear aG aN aB;go_wp2
     go_roundg (g2)
     case measure=>omega
     exact⟨a'+1,_,int_eq' (by omega),by omega,by omega,by have:=RS.out;omega,by rw[adf,aeM];omega,NU.out,fJ.out,bg.out⟩
    have t8:(kd == 8)=false:=adh.2 CB;clear her hdr hag hend hq
    go_wp2_with (at_builtin;refine uV rfl (.tmp 112) (.tmp 116) rfl wo.heap.size (.slice Ab acc.length cb) acc wr rfl HOW.out [c] [.int .u8 (c.toNat:Int)] (byteCells_one _).symm 1 rfl rfl RU (by decide) hwz ?_)
    intro v9 w9 aG aN aB;have fJ:=ah aG;have bg:=ah (uM.trans aB);clear aG aN aB;go_wp2
    go_roundg (g2)
    case measure=>omega
    exact⟨a'+1,_,int_eq' (by omega),by omega,by omega,by have:=RS.out;omega,by rw[adf,aeM];omega,NU.out,fJ.out,bg.out⟩
end Go.Proofs.YtkdakckjafomhaaGreatDoor
