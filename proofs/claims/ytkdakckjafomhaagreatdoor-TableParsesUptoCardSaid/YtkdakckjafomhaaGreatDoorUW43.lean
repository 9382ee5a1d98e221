/- Contracts and plain laws,part 43. -/
import Derived.Test.YtkdakckjafomhaaGreatDoorUW42
set_option maxHeartbeats 64000000
set_option maxRecDepth 1000000
set_option linter.all false
namespace Go.Proofs.YtkdakckjafomhaaGreatDoor
open Go.RowKit
theorem Ai:(Tryz.prog.info? 3).map (fun i=>(i.zero,i.size,i.bytes))=some (some (.int .i64 0),1,8):=by kernel_rfl
def IN (i:Nat):Value:=.int .i64 (i:Int)
def nP (nums:List Int) (texts:List (List UInt8)) (i j:Nat):Bool:=if 0<nums.length then decide (nums.getD i 0<=nums.getD j 0) else decide (texts.getD i []<=texts.getD j [])
theorem ams (nums:List Int) (texts:List (List UInt8)) (a b c:Nat) (h:nP nums texts a b=true) (k:nP nums texts b c=true):nP nums texts a c=true:=by
 unfold nP at*
 split at h
 ·rename_i h0
  rw[adk h0]at k⊢;simp only[aei] at*;omega
 rename_i h0;rw[ade h0]at k⊢;simp only[aei] at*;exact apN h k
theorem amu (nums:List Int) (texts:List (List UInt8)) (a b:Nat):(nP nums texts a b || nP nums texts b a)=true:=by
 unfold nP
 split
 ·simp only[af7,aei];omega
 simp only[af7,aei];exact aq8 _ _
theorem Qi {α:Type} {l:List α} {i m:Nat} {a:α} (h:l[i]?=some a) (hm:i<m):(l.drop i).take (m - i)=a ::(l.drop (i+1)).take (m -(i+1)):=by
 obtain⟨hi,e⟩:=adw.1 h;rw[aez hi,show m - i=(m -(i+1))+1 by omega,amL,e]
theorem acV {α:Type} (l:List α) (a w n:Nat) (hn:l.length=n):(l.drop a).take w=(l.drop a).take (min (a+w) n - a):=by
 rcases Nat.le_total (a+w) n with h|h
 ·rw[Nat.min_eq_left h];congr 1;omega
 rw[Nat.min_eq_right h,ado (by rw[aej];omega),ado (by rw[aej];omega)]
structure kU (B:Nat) (W:World) (A:Option Addr) (c:Nat) (l:List Nat) (n:Nat) (w:World):Prop where
 own:w.ownsRow B 3 1 (.slice A n c) n (l.map IN)
 len:l.length=n
 bel:Below W.heap.size W w
def acW (nums:List Int) (texts:List (List UInt8)) (n:Nat) (w:World) (e:Ending) (w':World):Prop:=
 ∃A c l,e=.returned (.slice A n c)/\kU w.heap.size w A c l n w'/\l.Perm (List.range n)/\l.Pairwise (fun i j=>nP nums texts i j=true)
theorem Qj (B:Nat) (An At:Option Addr) (nn cn tn ct:Nat) (nums:List Int) (texts:List (List UInt8)) (w:World) (hn:nums.length=nn) (ht:texts.length=tn) (rn:Reads w B 1 An nn (nums.map I64)) (rt:Reads w B 1 At tn (texts.map ST))
  (hB:B<=w.heap.size) (hone:nn=0\/tn=0) (hb:nn+tn<=1073741823):
  Calls Tryz.prog 52 #[.slice An nn cn,.slice At tn ct] w (acW nums texts (nn+tn) w):=by
 have fP:=ah rn;have HRT:=ah rt;have dN:=ah (And.intro hn ht);have HB:=ah hB
 obtain⟨n,hnt⟩:=aj (nn+tn);have hadd:(nn:Int)+(tn:Int)=(n:Int):=by omega
 rw[hnt];have BO:(n:Int)<=1073741823:=by omega
 have Cm:=ah hnt;have af0:=ah hone;obtain⟨le,hle⟩:=aj (nP nums texts);have jm:=ah hle
 have qM:=ah (fun a b c=>hle▸ams nums texts a b c)
 have HTO:=ah (fun a b=>hle▸amu nums texts a b)
 clear rn rt hn ht hB hnt hone hle hb;go_enter Tryz.func52,Tryz.ntmps52
 have H0:=ah (show kU w.heap.size w (some ⟨w.heap.size,0,none⟩) 0 [] 0 (w.alloc (.cells #[] 3)) from⟨JG w _ _ 1 (ac4 _),rfl,(Below.refl _ w).alloc (ac4 _) _⟩)
 go_wp2_with fail
 go_loopg [6,7] n (fun q s x wr=> ∃(k:Nat) (A:Option Addr) (c:Nat),s=.slice A k c/\x=.int .i64 k/\k+q=n/\Hid (kU w.heap.size w A c (List.range k) k wr))
 case atStart=>exact⟨0,_,_,rfl,rfl,by omega,H0.out⟩
 obtain⟨k,A,c,rfl,rfl,hk,hs⟩:=hrel
 have HS:Hid (kU w.heap.size w A c (List.range k) k wr):=hs;clear hs;cases gk with
 |succ q=>
  have hkn:(k:Int)<(n:Int):=by omega
  have hk3:k<1073741824:=by omega
  have HK:=ah hk;clear hk
  go_wp2_with (at_builtin;refine fD rfl (.tmp 27) (.tmp 29) 108 3 (.int .i64 0) 8 Tryz.underlying108 Ai rfl (by decide) rfl w.heap.size (.slice A k c) k ((List.range k).map IN) wr rfl HS.own _ rfl rfl hk3 HS.bel.size ?_)
  intro v9 w9 aG aN gG aB;obtain⟨A9,c9,rfl⟩:=aF aG
  have HF:=ah (show kU w.heap.size w A9 c9 (List.range (k+1)) (k+1) w9 from⟨by rw[List.range_succ,ad8];exact aG,aq4,HS.bel.trans aB⟩)
  clear aG aN gG aB;go_wp2
  go_roundg q
  case measure=>omega
  exact⟨k+1,A9,c9,rfl,int_eq (by omega),by have:=HK.out;omega,HF.out⟩
 |zero=>
  obtain rfl:k=n:=by omega
  have H1:=ah (show kU w.heap.size w A c (List.range k) k wr/\(List.range k).Perm (List.range k)/\Ord.Ch le 1 (List.range k) from⟨HS.out,.refl _,Ord.amn _⟩)
  have Dy: ¬(k:Int)<(k:Int):=by omega
  clear hk HS H0;go_wp2_with fail
  go_loopg [6,8] k (fun q s x wr=> ∃(d:Nat) (A:Option Addr) (c:Nat) (l:List Nat),s=.slice A k c/\x=.int .i64 d/\1<=d/\k<=d+q/\Hid (kU w.heap.size w A c l k wr/\l.Perm (List.range k)/\Ord.Ch le d l))
  case atStart=>exact⟨1,_,_,_,rfl,rfl,ac4 _,by omega,H1.out⟩
  obtain⟨d,A,c,l,rfl,rfl,hd1,Yh,hs⟩:=hrel
  have HS:Hid (kU w.heap.size w A c l k wr/\l.Perm (List.range k)/\Ord.Ch le d l):=hs
  clear hs H1;by_cases hdk:d<k
  case neg=>
   have t1:decide (d<k)=false:=ac5 hdk;have aoW:(k:Int)<=(d:Int):=by omega
   have HF:=ah (show acW nums texts k w (.returned (.slice A k c)) wr from⟨A,c,l,rfl,HS.out.1,HS.out.2.1,by rw[jm.out];exact Ord.amo HS.out.2.2 (by rw[HS.out.1.len];omega)⟩)
   clear hd1 Yh hdk;go_wp2;go_ret;exact HF.out
  obtain⟨q,rfl⟩: ∃q,gk=q+1:=⟨gk - 1,by omega⟩
  have aoW:(d:Int)<(k:Int):=by omega
  have HD:=ah (And.intro hd1 (And.intro Yh hdk));obtain⟨wP,hwP⟩: ∃x,x=wr:=⟨_,rfl⟩
  subst hwP;obtain⟨P,hP⟩:=aj (Ord.pass le d l)
  have NY:=ah (show P.Perm (List.range k)/\Ord.Ch le (2*d) P/\P.length=k from by
   have h1:=(Ord.amm (le:=le) (w:=d) (by omega) _ l rfl).trans HS.out.2.1
   rw[hP]at h1
   exact⟨h1,hP▸Ord.amq (by omega) qM.out HTO.out _ l rfl HS.out.2.2,by rw[h1.length_eq,aq4]⟩)
  have aO:=ah (show Reads wP wP.heap.size 1 A k (l.map IN) from Reads.dI HS.out.1.own)
  have dJ:=ah HS.out.1.len
  have CO:=ah (fun(i:Nat) (a:Nat) (h:l[i]?=some a)=>show a<k from anO.1 (HS.out.2.1.mem_iff.1 (adI h)))
  have yU:=ah HS.out.1.bel;have HP:=ah hP
  have En:=ah (show kU wP.heap.size wP (some ⟨wP.heap.size,0,none⟩) 0 [] 0 (wP.alloc (.cells #[] 3))/\ []++Ord.pass le d (l.drop 0)=P from⟨⟨JG wP _ _ 1 (ac4 _),rfl,(Below.refl _ wP).alloc (ac4 _) _⟩,by rw[afA,aex];exact hP⟩)
  clear hP hd1 Yh hdk HS;go_wp2_with fail
  go_loopg [9,10] k (fun q s x wr=> ∃(f m:Nat) (A9:Option Addr) (c9:Nat) (l9:List Nat),s=.slice A9 m c9/\x=.int .i64 f/\k<=f+q/\f<=k+2*d/\Hid (kU wP.heap.size wP A9 c9 l9 m wr/\l9++Ord.pass le d (l.drop f)=P))
  case atStart=>exact⟨0,0,_,_,[],rfl,rfl,by omega,by omega,En.out⟩
  obtain⟨f,m,A9,c9,l9,rfl,rfl,hf,hf2,hs⟩:=hrel
  have HS:Hid (kU wP.heap.size wP A9 c9 l9 m wr/\l9++Ord.pass le d (l.drop f)=P):=hs
  clear hs En;by_cases hfk:f<k
  case neg=>
   have t1:decide (f<k)=false:=ac5 hfk;have aoY:(k:Int)<=(f:Int):=by omega
   have Eo:l9=P:=by
    have:=HS.out.2
    rwa [amY (by rw[dJ.out];omega),Ord.Qh,aey]at this
   subst Eo;obtain rfl:m=k:=by rw[<-HS.out.1.len];exact NY.out.2.2
   have HF:=ah (show kU w.heap.size w A9 c9 l9 m wr/\l9.Perm (List.range m)/\Ord.Ch le (d*2) l9 from⟨⟨iy HS.out.1.own yU.size,HS.out.1.len,yU.trans (HS.out.1.bel.mono yU.size)⟩,NY.out.1,by rw[afV];exact NY.out.2.1⟩)
   clear hf hf2 hfk HS NY HP;go_wp2
   go_roundg q
   case measure=>omega
   exact⟨d*2,A9,c9,l9,rfl,int_eq (by omega),by have:=HD.out;omega,by have:=HD.out;omega,HF.out⟩
  obtain⟨q3,rfl⟩: ∃q3,gk=q3+1:=⟨gk - 1,by omega⟩
  have aoY:(f:Int)<(k:Int):=by omega
  obtain⟨mid,hmid⟩:=aj (min (f+d) k);obtain⟨en,hen⟩:=aj (min (f+2*d) k);have pY:=HD.out
  have aqK:min ((f:Int)+(d:Int)) (k:Int)=(mid:Int):=by omega
  have aqL:min ((f:Int)+2*(d:Int)) (k:Int)=(en:Int):=by omega
  obtain⟨R,hR⟩:=aj (Ord.pass le d (l.drop (f+2*d)))
  have HQ:=ah (show kU wP.heap.size wP A9 c9 l9 m wr/\l9++List.merge ((l.drop f).take (mid - f)) ((l.drop mid).take (en - mid)) le++R=P from⟨HS.out.1,by
   have h1:=HS.out.2
   have hne:l.drop f≠ []:=fun e=>by
    have:=aeH List.length e;rw[aej,dJ.out,ae8]at this;omega
   rw[Ord.Vg hne (by omega),am3,am3,hR,acV l f d k dJ.out,hmid]at h1
   have e2:(l.drop (f+d)).take d=(l.drop mid).take (en - mid):=by
    rcases Nat.le_total (f+d) k with h|h
    ·rw[acV l (f+d) d k dJ.out,<-hmid,Nat.min_eq_left h,<-hen];congr 2;omega
    rw[amY (by rw[dJ.out];omega),amY (by rw[dJ.out];omega)];simp
   rw[e2]at h1;rw[aeG]
   exact h1⟩)
  have Ht:=ah (show f<=mid/\mid<=en/\en<=k/\f<mid from by omega)
  have HFK:=ah (And.intro hf hf2);have HR:=ah hR;clear hmid hen hf hf2 hfk HS hR pY
  go_wp2_with fail
  go_loopg [9,11,13] (en - f) (fun q s x y wr=> ∃(i j m:Nat) (A9:Option Addr) (c9:Nat) (l9:List Nat),s=.slice A9 m c9/\x=.int .i64 i/\y=.int .i64 j/\i<=mid/\mid<=j/\j<=en/\(mid - i)+(en - j)<=q/\Hid (kU wP.heap.size wP A9 c9 l9 m wr/\l9++List.merge ((l.drop i).take (mid - i)) ((l.drop j).take (en - j)) le++R=P))
  case atStart=>exact⟨f,mid,m,_,_,l9,rfl,rfl,rfl,Ht.out.1,ac4 _,Ht.out.2.1,by have:=Ht.out;omega,HQ.out⟩
  obtain⟨i,j,m,A9,c9,l9,rfl,rfl,rfl,hi,hj,hje,hq,hs⟩:=hrel
  have HS:Hid (kU wP.heap.size wP A9 c9 l9 m wr/\l9++List.merge ((l.drop i).take (mid - i)) ((l.drop j).take (en - j)) le++R=P):=hs
  clear hs HQ
  have wu:=ah (show l9.length<=P.length from by have:=aeH List.length HS.out.2;rw[aeG,adf]at this;omega)
  have wJ:m<1073741824:=by have:=wu.out;rw[HS.out.1.len,NY.out.2.2]at this;omega
  rcases Decidable.em (i<mid) with him|him<;>rcases Decidable.em (j<en) with hjn|hjn
  ·
   have hik:i<k:=by have:=Ht.out;omega
   have hjk:j<k:=by have:=Ht.out;omega
   obtain⟨a,ha⟩: ∃a,l[i]?=some a:=⟨_,dF (by rw[dJ.out];exact hik)⟩
   obtain⟨b,hb⟩: ∃b,l[j]?=some b:=⟨_,dF (by rw[dJ.out];exact hjk)⟩
   have hak:=CO.out i a ha;have hbk:=CO.out j b hb
   obtain⟨p,o,x,rfl,-,hx,hp⟩:=(aO.below HS.out.1.bel).cell hik
   obtain⟨p',o',y,e',-,hy,hp'⟩:=(aO.below HS.out.1.bel).cell hjk;cases e'
   rw[adX,ha]at hx;rw[adX,hb]at hy;obtain rfl:=ad4 hx;obtain rfl:=ad4 hy
   simp only[IN]at hp hp';have t1:decide (i<mid)=true:=adb him
   have t2:decide (j<en)=true:=adb hjn;have u1:(i:Int)<(mid:Int):=by omega
   have u2:(j:Int)<(en:Int):=by omega
   have t3:((j:Int) ==(en:Int))=false:=by rw[adh];omega
   have ao0:(i:Int)<(k:Int):=by omega
   have ao1:(j:Int)<(k:Int):=by omega
   have pi:(0:Int)<=(i:Int):=by omega
   have pj:(0:Int)<=(j:Int):=by omega
   have ti:((i:Int)).toNat=i:=by omega
   have tj:((j:Int)).toNat=j:=by omega
   have pa:(0:Int)<=(a:Int):=by omega
   have pb:(0:Int)<=(b:Int):=by omega
   have ta:((a:Int)).toNat=a:=by omega
   have tb:((b:Int)).toNat=b:=by omega
   have hxs:(l.drop i).take (mid - i)=a ::(l.drop (i+1)).take (mid -(i+1)):=Qi ha him
   have hys:(l.drop j).take (en - j)=b ::(l.drop (j+1)).take (en -(j+1)):=Qi hb hjn
   have HSL:=ah (fun(h:le a b=true)=>show(l9++[a])++List.merge ((l.drop (i+1)).take (mid -(i+1))) ((l.drop j).take (en - j)) le++R=P from by
    have:=HS.out.2;rw[hxs,hys,Ord.amr h,<-hys]at this
    simpa using this)
   have lu:=ah (fun(h:le a b=false)=>show(l9++[b])++List.merge ((l.drop i).take (mid - i)) ((l.drop (j+1)).take (en -(j+1))) le++R=P from by
    have:=HS.out.2;rw[hxs,hys,Ord.merge_right h,<-hxs]at this
    simpa using this)
   have ED:=ah (And.intro him (And.intro hjn (And.intro hi (And.intro hj (And.intro hje hq)))))
   have eG:=ah HS.out.1;obtain⟨lab,hlab⟩:=aj (le a b);have Ju:=ah hlab
   clear hx hy ha hb hxs hys him hjn hi hj hje hq hlab HS wu hik hjk;by_cases h0:0<nn
   case' pos=>
    have han:a<nn:=by have:=Cm.out;have:=af0.out;omega
    have hbn:b<nn:=by have:=Cm.out;have:=af0.out;omega
    have t0:decide (0<nn)=true:=adb h0
    have t0I:decide ((0:Int)<(nn:Int))=true:=adb (by omega)
    have u0:(0:Int)<(nn:Int):=by omega
    have ao2:(a:Int)<(nn:Int):=by omega
    have Wj:(b:Int)<(nn:Int):=by omega
    obtain⟨g,go,x,e1,-,hx,kx⟩:=(fP.below ((yU.mono HB.out).trans (eG.bel.mono (adg HB.out yU.size)))).cell han
    obtain⟨g',go',y,e2,-,hy,ky⟩:=(fP.below ((yU.mono HB.out).trans (eG.bel.mono (adg HB.out yU.size)))).cell hbn
    rw[e1]at e2;cases e2;rw[adX]at hx hy;obtain⟨X,hX,rfl⟩:=ae4.1 hx
    obtain⟨Y,hY,rfl⟩:=ae4.1 hy;simp only[I64]at kx ky
    have hcmp:decide (X<=Y)=lab:=by
     rw[<-Ju.out,<-jm.out];unfold nP;rw[adk (by rw[dN.out.1];exact h0),afN,afN,hX,hY]
     rfl
    subst e1;clear hx hy hX hY h0 han hbn hak hbk
   case' neg=>
    obtain rfl:nn=0:=by omega
    have han:a<tn:=by have:=Cm.out;omega
    have hbn:b<tn:=by have:=Cm.out;omega
    have ao2:(a:Int)<(tn:Int):=by omega
    have Wj:(b:Int)<(tn:Int):=by omega
    obtain⟨g,go,x,e1,-,hx,kx⟩:=(HRT.below ((yU.mono HB.out).trans (eG.bel.mono (adg HB.out yU.size)))).cell han
    obtain⟨g',go',y,e2,-,hy,ky⟩:=(HRT.below ((yU.mono HB.out).trans (eG.bel.mono (adg HB.out yU.size)))).cell hbn
    rw[e1]at e2;cases e2;rw[adX]at hx hy;obtain⟨X,hX,rfl⟩:=ae4.1 hx
    obtain⟨Y,hY,rfl⟩:=ae4.1 hy;unfold ST at kx ky
    obtain⟨zx,hzx⟩:=aj (⟨X.toArray⟩:ByteArray)
    obtain⟨zy,hzy⟩:=aj (⟨Y.toArray⟩:ByteArray);rw[hzx]at kx;rw[hzy]at ky
    have hcmp:decide (X<=Y)=lab:=by
     rw[<-Ju.out,<-jm.out];unfold nP;rw[ade (by rw[dN.out.1];omega),afN,afN,hX,hY]
     rfl
    obtain⟨b1,hb1⟩:=aj (Op.bytesLess zx.toList zy.toList)
    obtain⟨b2,hb2⟩:=aj (zx.toList == zy.toList)
    have aqN:(b1 || b2)=lab:=by
     rw[<-hcmp,<-hb1,<-hb2,Lib.toList_data,Lib.toList_data,<-hzx,<-hzy];exact Iw X Y
    subst e1;clear hx hy hX hY h0 han hbn hak hbk hzx hzy hcmp
   all_goals cases lab
   ·
    go_upto_region 19 with fail
    go_quiet (fail)
    have dw:=ah (show(wr.drewN nq).ownsRow wP.heap.size 3 1 (.slice A9 m c9) m (l9.map IN) from eG.own)
    obtain⟨w5,hw5⟩:=aj (wr.drewN nq)
    have bG:=ah (show Below wP.heap.size wP w5 from hw5▸below_drewN eG.bel nq)
    have c5:w5.cell? ⟨p,o+j,none⟩=some (.int .i64 (b:Nat)):=hw5▸hp';rw[hw5]at dw⊢
    clear hp hp' kx ky hw5
    go_wp2_with (at_builtin;refine fD rfl (.tmp 123) (.tmp 128) 108 3 (.int .i64 0) 8 Tryz.underlying108 Ai rfl (by decide) rfl wP.heap.size (.slice A9 m c9) m (l9.map IN) w5 rfl dw.out _ rfl rfl wJ bG.size ?_)
    intro v9 w9 aG aN gG aB;obtain⟨A8,c8,rfl⟩:=aF aG
    have HF:=ah (show kU wP.heap.size wP A8 c8 (l9++[b]) (m+1) w9/\_ from⟨⟨by rw[ad8];exact aG,by rw[adf,eG.len];rfl,bG.trans aB⟩,lu.out Ju.out⟩)
    clear aG aN gG aB c5;have Hu:=ED.out;go_wp2
    go_roundg (gk - 1)
    case measure=>omega
    exact⟨i,j+1,m+1,A8,c8,_,rfl,rfl,int_eq (by omega),by omega,by omega,by omega,by omega,HF.out⟩
   ·
    go_upto_region 19 with fail
    go_quiet (fail)
    have dw:=ah (show(wr.drewN nq).ownsRow wP.heap.size 3 1 (.slice A9 m c9) m (l9.map IN) from eG.own)
    obtain⟨w5,hw5⟩:=aj (wr.drewN nq)
    have bG:=ah (show Below wP.heap.size wP w5 from hw5▸below_drewN eG.bel nq)
    have c5:w5.cell? ⟨p,o+i,none⟩=some (.int .i64 (a:Nat)):=hw5▸hp;rw[hw5]at dw⊢
    clear hp hp' kx ky hw5
    go_wp2_with (at_builtin;refine fD rfl (.tmp 114) (.tmp 119) 108 3 (.int .i64 0) 8 Tryz.underlying108 Ai rfl (by decide) rfl wP.heap.size (.slice A9 m c9) m (l9.map IN) w5 rfl dw.out _ rfl rfl wJ bG.size ?_)
    intro v9 w9 aG aN gG aB;obtain⟨A8,c8,rfl⟩:=aF aG
    have HF:=ah (show kU wP.heap.size wP A8 c8 (l9++[a]) (m+1) w9/\_ from⟨⟨by rw[ad8];exact aG,by rw[adf,eG.len];rfl,bG.trans aB⟩,HSL.out Ju.out⟩)
    clear aG aN gG aB c5;have Hu:=ED.out;go_wp2
    go_roundg (gk - 1)
    case measure=>omega
    exact⟨i+1,j,m+1,A8,c8,_,rfl,int_eq (by omega),rfl,by omega,by omega,by omega,by omega,HF.out⟩
   ·
    go_upto_region 20 with fail
    go_quiet (fail)
    have dw:=ah (show(wr.drewN nq).ownsRow wP.heap.size 3 1 (.slice A9 m c9) m (l9.map IN) from eG.own)
    obtain⟨w5,hw5⟩:=aj (wr.drewN nq)
    have bG:=ah (show Below wP.heap.size wP w5 from hw5▸below_drewN eG.bel nq)
    have c5:w5.cell? ⟨p,o+j,none⟩=some (.int .i64 (b:Nat)):=hw5▸hp';rw[hw5]at dw⊢
    clear hp hp' kx ky hw5
    go_wp2_with (at_builtin;refine fD rfl (.tmp 123) (.tmp 128) 108 3 (.int .i64 0) 8 Tryz.underlying108 Ai rfl (by decide) rfl wP.heap.size (.slice A9 m c9) m (l9.map IN) w5 rfl dw.out _ rfl rfl wJ bG.size ?_)
    intro v9 w9 aG aN gG aB;obtain⟨A8,c8,rfl⟩:=aF aG
    have HF:=ah (show kU wP.heap.size wP A8 c8 (l9++[b]) (m+1) w9/\_ from⟨⟨by rw[ad8];exact aG,by rw[adf,eG.len];rfl,bG.trans aB⟩,lu.out Ju.out⟩)
    clear aG aN gG aB c5;have Hu:=ED.out;go_wp2
    go_roundg (gk - 1)
    case measure=>omega
    exact⟨i,j+1,m+1,A8,c8,_,rfl,rfl,int_eq (by omega),by omega,by omega,by omega,by omega,HF.out⟩
   go_upto_region 20 with fail
   go_quiet (fail)
   have dw:=ah (show(wr.drewN nq).ownsRow wP.heap.size 3 1 (.slice A9 m c9) m (l9.map IN) from eG.own)
   obtain⟨w5,hw5⟩:=aj (wr.drewN nq)
   have bG:=ah (show Below wP.heap.size wP w5 from hw5▸below_drewN eG.bel nq)
   have c5:w5.cell? ⟨p,o+i,none⟩=some (.int .i64 (a:Nat)):=hw5▸hp;rw[hw5]at dw⊢
   clear hp hp' kx ky hw5
   go_wp2_with (at_builtin;refine fD rfl (.tmp 114) (.tmp 119) 108 3 (.int .i64 0) 8 Tryz.underlying108 Ai rfl (by decide) rfl wP.heap.size (.slice A9 m c9) m (l9.map IN) w5 rfl dw.out _ rfl rfl wJ bG.size ?_)
   intro v9 w9 aG aN gG aB;obtain⟨A8,c8,rfl⟩:=aF aG
   have HF:=ah (show kU wP.heap.size wP A8 c8 (l9++[a]) (m+1) w9/\_ from⟨⟨by rw[ad8];exact aG,by rw[adf,eG.len];rfl,bG.trans aB⟩,HSL.out Ju.out⟩)
   clear aG aN gG aB c5;have Hu:=ED.out;go_wp2
   go_roundg (gk - 1)
   case measure=>omega
   exact⟨i+1,j,m+1,A8,c8,_,rfl,int_eq (by omega),rfl,by omega,by omega,by omega,by omega,HF.out⟩
  ·
   have hik:i<k:=by have:=Ht.out;omega
   obtain⟨a,ha⟩: ∃a,l[i]?=some a:=⟨_,dF (by rw[dJ.out];exact hik)⟩
   obtain⟨p,o,x,rfl,-,hx,hp⟩:=(aO.below HS.out.1.bel).cell hik;rw[adX,ha]at hx
   obtain rfl:=ad4 hx;simp only[IN]at hp;have t1:decide (i<mid)=true:=adb him
   have t2:decide (j<en)=false:=ac5 hjn;have u1:(i:Int)<(mid:Int):=by omega
   have u2:(en:Int)<=(j:Int):=by omega
   have t3:((j:Int) ==(en:Int))=true:=by rw[aeI];omega
   have hst:(l9++[a])++List.merge ((l.drop (i+1)).take (mid -(i+1))) ((l.drop j).take (en - j)) le++R=P:=by
    have:=HS.out.2;rw[show en - j=0 by omega,amN,List.merge_right,Qi ha him]at this
    rw[show en - j=0 by omega,amN,List.merge_right]
    simpa using this
   have ao0:(i:Int)<(k:Int):=by omega
   have pi:(0:Int)<=(i:Int):=by omega
   have ti:((i:Int)).toNat=i:=by omega
   have ED:=ah (And.intro him (And.intro hjn (And.intro hi (And.intro hj (And.intro hje hq)))))
   have eG:=ah HS.out.1;have HST:=ah hst;clear hx ha him hjn hi hj hje hq HS wu hik hst
   go_wp2_with (at_builtin;refine fD rfl (.tmp 114) (.tmp 119) 108 3 (.int .i64 0) 8 Tryz.underlying108 Ai rfl (by decide) rfl wP.heap.size (.slice A9 m c9) m (l9.map IN) wr rfl eG.own _ rfl rfl wJ eG.bel.size ?_)
   intro v9 w9 aG aN gG aB;obtain⟨A8,c8,rfl⟩:=aF aG
   have HF:=ah (show kU wP.heap.size wP A8 c8 (l9++[a]) (m+1) w9/\_ from⟨⟨by rw[ad8];exact aG,by rw[adf,eG.len];rfl,eG.bel.trans aB⟩,HST.out⟩)
   clear aG aN gG aB hp;have Hu:=ED.out;go_wp2
   go_roundg (gk - 1)
   case measure=>omega
   exact⟨i+1,j,m+1,A8,c8,_,rfl,int_eq (by omega),rfl,by omega,by omega,by omega,by omega,HF.out⟩
  ·
   have hjk:j<k:=by have:=Ht.out;omega
   obtain⟨a,ha⟩: ∃a,l[j]?=some a:=⟨_,dF (by rw[dJ.out];exact hjk)⟩
   obtain⟨p,o,x,rfl,-,hx,hp⟩:=(aO.below HS.out.1.bel).cell hjk;rw[adX,ha]at hx
   obtain rfl:=ad4 hx;simp only[IN]at hp;have t1:decide (i<mid)=false:=ac5 him
   have t2:decide (j<en)=true:=adb hjn;have u1:(mid:Int)<=(i:Int):=by omega
   have u2:(j:Int)<(en:Int):=by omega
   have t3:((j:Int) ==(en:Int))=false:=by rw[adh];omega
   have hst:(l9++[a])++List.merge ((l.drop i).take (mid - i)) ((l.drop (j+1)).take (en -(j+1))) le++R=P:=by
    have:=HS.out.2;rw[show mid - i=0 by omega,amN,List.nil_merge,Qi ha hjn]at this
    rw[show mid - i=0 by omega,amN,List.nil_merge]
    simpa using this
   have ao1:(j:Int)<(k:Int):=by omega
   have pj:(0:Int)<=(j:Int):=by omega
   have tj:((j:Int)).toNat=j:=by omega
   have ED:=ah (And.intro him (And.intro hjn (And.intro hi (And.intro hj (And.intro hje hq)))))
   have eG:=ah HS.out.1;have HST:=ah hst;clear hx ha him hjn hi hj hje hq HS wu hjk hst
   go_wp2_with (at_builtin;refine fD rfl (.tmp 123) (.tmp 128) 108 3 (.int .i64 0) 8 Tryz.underlying108 Ai rfl (by decide) rfl wP.heap.size (.slice A9 m c9) m (l9.map IN) wr rfl eG.own _ rfl rfl wJ eG.bel.size ?_)
   intro v9 w9 aG aN gG aB;obtain⟨A8,c8,rfl⟩:=aF aG
   have HF:=ah (show kU wP.heap.size wP A8 c8 (l9++[a]) (m+1) w9/\_ from⟨⟨by rw[ad8];exact aG,by rw[adf,eG.len];rfl,eG.bel.trans aB⟩,HST.out⟩)
   clear aG aN gG aB hp;have Hu:=ED.out;go_wp2
   go_roundg (gk - 1)
   case measure=>omega
   exact⟨i,j+1,m+1,A8,c8,_,rfl,rfl,int_eq (by omega),by omega,by omega,by omega,by omega,HF.out⟩
  have t1:decide (i<mid)=false:=ac5 him;have t2:decide (j<en)=false:=ac5 hjn
  have u1:(mid:Int)<=(i:Int):=by omega
  have u2:(en:Int)<=(j:Int):=by omega
  have hfin:l9++Ord.pass le d (l.drop (f+2*d))=P:=by
   have:=HS.out.2;rw[show mid - i=0 by omega,show en - j=0 by omega,amN,amN]at this
   rw[HR.out]
   simpa using this
  have HF:=ah (And.intro HS.out.1 hfin);have Hu:=HFK.out;have HHD:=HD.out
  have aY:=ah (show f+2*d<=k+2*d/\k<=f+2*d+q3 from by omega)
  clear HS wu hfin him hjn hi hj hje hq Hu HHD;go_wp2
  go_roundg q3
  case measure=>omega
  exact⟨f+2*d,m,A9,c9,l9,rfl,int_eq (by omega),aY.out.2,aY.out.1,HF.out⟩
def Ord.at_ {α:Type} (ps:List α) (l:List Nat):List α:=l.filterMap fun i=>ps[i]?
theorem Ord.acX {α:Type}: ∀ps:List α,Ord.at_ ps (List.range ps.length)=ps:=by
 intro ps
 induction ps with
 |nil=>rfl
 |cons a r ih=>
  unfold Ord.at_ at*;rw[adQ,List.range_succ_eq_map,anY,List.filterMap_map]
  simp only[adn]
  congr 1
theorem Ord.acY {α:Type} {ps:List α} {l:List Nat} {k i:Nat} {a:α} (hl:l[k]?=some i) (ha:ps[i]?=some a):Ord.at_ ps (l.take (k+1))=Ord.at_ ps (l.take k)++[a]:=by
 unfold Ord.at_;rw[ae3,hl,List.filterMap_append];simp[ha]
theorem Ord.sorted {α κ:Type} {le:κ->κ->Bool} (K:Key le) {key:α->κ} {ps:List α} {l:List Nat} {n:Nat} (hn:ps.length=n) (hd:(ps.map key).Nodup) (hp:l.Perm (List.range n)) {r:Nat->Nat->Bool} (hs:l.Pairwise fun i j=>r i j=true)
  (hr: ∀i j a b,ps[i]?=some a->ps[j]?=some b->r i j=le (key a) (key b)):Ord.at_ ps l=Gr.jd le key ps:=by
 subst hn;refine abq K hd ((hp.filterMap _).trans (.of_eq (Ord.acX ps))) ?_;rw[anC]
 unfold Ord.at_;rw[aro]
 exact hs.imp fun {i j} h a ha b hb=>by rw[<-hr i j a b ha hb];exact h
theorem Ord.lt {l:List Nat} {n k i:Nat} (hp:l.Perm (List.range n)) (h:l[k]?=some i):i<n:=anO.1 (hp.mem_iff.1 (adI h))
theorem acZ {α:Type} (key:α->List UInt8) (ps:List α) (i j:Nat) (a b:α) (ha:ps[i]?=some a) (hb:ps[j]?=some b):nP [] (ps.map key) i j=decide (key a<=key b):=by
 unfold nP;rw[ade (by simp),afN,afN,adX,adX,ha,hb]
 rfl
theorem ac0 {α:Type} (key:α->Int) (ps:List α) (i j:Nat) (a b:α) (ha:ps[i]?=some a) (hb:ps[j]?=some b):nP (ps.map key) [] i j=decide (key a<=key b):=by
 unfold nP;rw[adk (by rw[adU];exact aqI (afP _) (adw.1 ha).1),afN,afN,adX,adX,ha,hb]
 rfl
theorem Ord.amv {ps:List (List UInt8)} {l:List Nat} {n:Nat} (hn:ps.length=n) (hp:l.Perm (List.range n)) (hs:l.Pairwise fun i j=>nP [] ps i j=true):Ord.at_ ps l=Gr.pU ps:=by
 subst hn
 have ht:=aoa (le:=fun a b:List UInt8=>decide (a<=b)) (fun a b c=>Fe.trans _ _ _) (fun a b=>Fe.total _ _) ps
 refine(((hp.filterMap _).trans (.of_eq (Ord.acX ps))).trans (afz ps _).symm).eq_of_pairwise (le:=fun a b=>decide (a<=b)=true) (fun x y _ _ h1 h2=>Fe.anti _ _ h1 h2) ?_ ht
 unfold Ord.at_;rw[aro]
 exact hs.imp fun {i j} h a ha b hb=>by
  have:=acZ id ps i j a b ha hb;rw[aq3]at this
  rw[<-show nP [] ps i j=decide (a<=b) from this];exact h
theorem bY.amw {α β:Type} {W:World} {B size:Nat} {R:α->List Value->Prop} {R':β->List Value->Prop} {A:Option Addr} {l:List α} {f:α->β} (h:bY W B size R A l) (hR: ∀a cs,R a cs->R' (f a) cs):bY W B size R' A (l.map f):=fun i a ha=>by
 rw[adX]at ha;obtain⟨x,hx,rfl⟩:=ae4.1 ha;obtain⟨b,off,cs,e,hlt,hr,hl,hc⟩:=h i x hx
 exact⟨b,off,cs,e,hlt,hR _ _ hr,hl,hc⟩
def Qk (w:World) (A:Option Addr) (c k:Nat) (ps:List Gr.P) (V:World):Prop:=V.ownsRow w.heap.size 9 1 (.slice A k c) k ((ps.take k).map fun p=>ST p.key)/\Below w.heap.size w V
def Du (B:Nat) (w:World) (A:Option Addr) (c k:Nat) (xs:List Gr.P) (V:World):Prop:=
 ∃q:List (Gr.P×List Value),q.map Prod.fst=xs/\(∀x∈q,aX V B x.1 x.2)/\V.ownsRow w.heap.size 39 6 (.slice A k c) k (q.flatMap Prod.snd)/\Below w.heap.size w V
theorem Du.bel {B:Nat} {w V:World} {A:Option Addr} {c k:Nat} {xs:List Gr.P} (h:Du B w A c k xs V):Below w.heap.size w V:=by
 obtain⟨_,-,-,-,h⟩:=h;exact h
theorem Du.lst {B:Nat} {w V:World} {A:Option Addr} {c k:Nat} {xs:List Gr.P} (h:Du B w A c k xs V) (hx:xs.length=k) (hB:B<=V.heap.size):bY V V.heap.size 6 (aX V V.heap.size) A xs:=by
 obtain⟨q,hq,h1,h2,-⟩:=h;have hl:q.length=k:=by rw[<-hx,<-hq,adU]
 subst hl
 have:=bY.dI (R:=fun(a:Gr.P×List Value) cs=>aX V V.heap.size a.1 cs) (f:=Prod.snd) h2 (fun a ha=>(h1 a ha).len) (fun a ha=>aX.more hB _ _ (h1 a ha))
 rw[<-hq];exact this.amw fun _ _ h=>h
theorem ac1 (B:Nat) (A:Option Addr) (c n:Nat) (ps:List Gr.P) (w:World) (h:bY w B 6 (aX w B) A ps) (hl:ps.length=n) (hok: ∀p∈ps,uF p) (hd:(ps.map Gr.P.key).Nodup) (hB:B<=w.heap.size) (hn:n<=67108864):
  Calls Tryz.prog 53 #[.slice A n c] w fun e w'=> ∃v',e=.returned v'/\cu 39 w' w.heap.size v' (Gr.lS ps)/\Below w.heap.size w w':=by
 have H:=ah h;have HL:=ah hl;have aV:=ah hok;have HD:=ah hd;have aK:=ah hB
 have HS:=ah (show Qk w (some ⟨w.heap.size,0,none⟩) 0 0 ps (w.alloc (.cells #[] 9)) from⟨by simpa using oM w 9 1,(Below.refl _ w).alloc (ac4 _) _⟩)
 clear h hl hok hd hB;go_enter Tryz.func53,Tryz.ntmps53;go_wp2_with fail
 go_loopg [4,3] n (fun kx x y wr=> ∃(k:Nat) (A':Option Addr) (c':Nat),x=.int .i64 k/\y=.slice A' k c'/\k+kx=n/\Hid (Qk w A' c' k ps wr))
 case atStart=>exact⟨0,_,_,rfl,rfl,by omega,HS.out⟩
 obtain⟨k,A',c',rfl,rfl,hk,hb⟩:=hrel;have HB:Hid (Qk w A' c' k ps wr):=hb;clear hb HS
 cases gk with
 |succ kq=>
  have hkn:k<n:=by omega
  have dH:(k:Int)<n:=by omega
  have pk:(0:Int)<=(k:Int):=by omega
  have tk:((k:Int)).toNat=k:=by omega
  have tw:IntKind.i64.wrap ((k:Int)+1)=(k:Int)+1:=by unfold IntKind.wrap;simp[IntKind.signed,IntKind.bits];omega
  obtain⟨p,hp⟩: ∃p,ps[k]?=some p:=⟨_,dF (by rw[HL.out];exact hkn)⟩
  have hBw:=HB.out.2.mono aK.out
  obtain⟨b,o,An,cn,At,ct,rfl,hlt,⟨p0,-⟩,-,-⟩:=(H.out.below hBw (aX.below hBw)).prop hp
  obtain⟨z1,hz1⟩:=aj (⟨p.key.toArray⟩:ByteArray);unfold ST at p0;rw[hz1]at p0
  have HP:=ah (show(ps.take (k+1)).map (fun p=>ST p.key)=(ps.take k).map (fun p=>ST p.key)++[.string z1] by rw[ae3,hp,ad8];simp[ST,hz1])
  have HK:=ah hk;have h5:k<1073741824:=by omega
  clear hk hp hz1 hlt hBw
  go_wp2_with (at_builtin;refine fD rfl (.tmp 15) (.tmp 21) 34 9 (.string ⟨#[]⟩) 16 Tryz.underlying34 Ah rfl (by decide) rfl w.heap.size (.slice A' k c') k ((ps.take k).map fun p=>ST p.key) wr rfl HB.out.1 (.string z1) rfl rfl h5 HB.out.2.size ?_)
  intro v9 w9 aJ bI dD aB;obtain⟨A9,c9,rfl⟩:=aF aJ
  have HN:=ah (show Qk w A9 c9 (k+1) ps w9 from⟨by rw[HP.out,aoV];exact aJ,HB.out.2.trans aB⟩)
  clear aJ bI dD aB;go_wp2
  go_roundg kq
  case measure=>omega
  exact⟨k+1,A9,c9,int_eq (by omega),rfl,by have:=HK.out;omega,HN.out⟩
 |zero=>
  obtain rfl:k=n:=by omega
  obtain⟨W1,hW1⟩:=aj (wr.alloc (.cells #[] 3))
  have hb1:Below wr.heap.size wr W1:=hW1▸(Below.refl _ wr).alloc (ac4 _) _
  have hkeys:=HB.out.1;rw[ado (by rw[HL.out];exact ac4 _)]at hkeys
  have af2:=HB.out.2.trans (hb1.mono HB.out.2.size)
  have hrt:=Reads.dI (own_below hkeys hb1)
  rw[show ps.map (fun p=>ST p.key)=(ps.map Gr.P.key).map ST by rw[agk];rfl]at hrt
  have ho:=Qj W1.heap.size (some ⟨wr.heap.size,0,none⟩) A' 0 0 k c' [] (ps.map Gr.P.key) W1 rfl (by rw[adU];exact HL.out) ⟨rfl,fun h=>by omega⟩ hrt (ac4 _) (.inl rfl) (by omega)
  rw[afW]at ho;have HO:=ah ho;have HB1:=ah af2;have HW1:=ah hW1
  clear hk hW1 hb1 hkeys af2 hrt ho;go_wp2_with fail
  try rw[HW1.out]
  refine HO.mono ?_;rintro e w2 ⟨Ao,co,l,rfl,ho,hp,hs⟩
  have hsort:=Ord.sorted Fe HL.out HD.out hp hs (acZ Gr.P.key ps);have eG:=ah hsort
  have qO:=ah (fun(j i:Nat) (h:l[j]?=some i)=>Ord.lt hp h)
  have HB2:=ah (HB1.trans (ho.bel.mono HB1.size));have HOW:=ah ho.own;have dJ:=ah ho.len
  have kC:=(Below.refl w2.heap.size w2).alloc (ac4 _) (.cells #[] 39)
  have HS2:=ah (show Du B w2 (some ⟨w2.heap.size,0,none⟩) 0 0 (Ord.at_ ps (l.take 0)) (w2.alloc (.cells #[] 39)) from⟨[],by simp[Ord.at_],by simp,by simpa using oM w2 39 6,kC⟩)
  clear ho hp hs hsort kC HO HB;go_wp2_with fail
  go_loopg [7,6] k (fun kx x y wr=> ∃(j:Nat) (A':Option Addr) (c':Nat),x=.int .i64 j/\y=.slice A' j c'/\j+kx=k/\Hid (Du B w2 A' c' j (Ord.at_ ps (l.take j)) wr))
  case atStart=>exact⟨0,_,_,rfl,rfl,by omega,HS2.out⟩
  obtain⟨j,A3,c3,rfl,rfl,hj,hb⟩:=hrel
  have HB:Hid (Du B w2 A3 c3 j (Ord.at_ ps (l.take j)) wr):=hb;have pK:=ah HB.bel
  clear hb HS2;cases gk with
  |succ kq=>
   have hjn:j<k:=by omega
   have Az:(j:Int)<k:=by omega
   have pj:(0:Int)<=(j:Int):=by omega
   have tj:((j:Int)).toNat=j:=by omega
   have tw:IntKind.i64.wrap ((j:Int)+1)=(j:Int)+1:=by unfold IntKind.wrap;simp[IntKind.signed,IntKind.bits];omega
   obtain⟨i,hi⟩: ∃i,l[j]?=some i:=⟨_,dF (by rw[dJ.out];exact hjn)⟩
   have hin:=qO.out j i hi
   obtain⟨p,hp⟩: ∃p,ps[i]?=some p:=⟨_,dF (by rw[HL.out];exact hin)⟩
   obtain⟨lb,lo,v,rfl,hlb,hv,hc⟩:=((Reads.dI HOW.out).below pK.out).cell hjn
   rw[adX,hi]at hv;cases hv;obtain⟨q,hq,hqp,hqo,Jd⟩:=HB.out
   have hBw:=(HB2.trans (Jd.mono HB2.size)).mono aK.out
   obtain⟨b,o,An,cn,At,ct,rfl,hlt,⟨p0,p1,p2,p3,p4,p5⟩,ra,rb⟩:=(H.out.below hBw (aX.below hBw)).prop hp
   obtain⟨z1,hz1⟩:=aj (⟨p.key.toArray⟩:ByteArray)
   obtain⟨z2,hz2⟩:=aj (⟨p.val.text.toArray⟩:ByteArray)
   have e1:ST p.key=.string z1:=by unfold ST;rw[hz1]
   have e2:ST p.val.text=.string z2:=by unfold ST;rw[hz2]
   have hpc:aX wr B p [.string z1,.int .i64 p.val.kind,.int .i64 p.val.num,.string z2,.slice An p.val.nums.length cn,.slice At p.val.texts.length ct]:=⟨An,cn,At,ct,by rw[e1,e2],ra,rb⟩
   rw[e1]at p0;rw[e2]at p3;have ti:((i:Int)).toNat=i:=by omega
   have pi:(0:Int)<=(i:Int):=by omega
   have D5:(i:Int)<k:=by omega
   unfold IN at hc;have qx:=ah hpc;have HQ:=ah (And.intro hq (And.intro hqp Jd))
   have HQO:=ah hqo;have HAT:=ah (Ord.acY hi hp);have HJ:=ah hj
   have h5:j<536870912:=by omega
   have hBr:w2.heap.size<=wr.heap.size:=Jd.size
   clear hi hin hp hlb hq hqp hqo Jd hBw hlt ra rb hz1 hz2 e1 e2 hpc hj
   go_wp2_with (at_builtin;refine JF rfl (.tmp 33) (.tmp 41) 40 39 (.agg #[.string ⟨#[]⟩,.int .i64 0,.int .i64 0,.string ⟨#[]⟩,.slice none 0 0,.slice none 0 0]) 6 96 Tryz.underlying40 UN rfl (by decide) (by decide) rfl w2.heap.size (.slice A3 j c3) j (q.flatMap Prod.snd) wr rfl HQO.out [.string z1,.int .i64 p.val.kind,.int .i64 p.val.num,.string z2,.slice An p.val.nums.length cn,.slice At p.val.texts.length ct] _ rfl rfl (by simp[Value.oneCell']) rfl h5 hBr ?_)
   intro v9 w9 aJ bI dD aB;obtain⟨A9,c9,rfl⟩:=aF aJ
   have hbp:Below B wr w9:=aB.mono (adg aK.out HB2.size)
   have HN:=ah (show Du B w2 A9 c9 (j+1) (Ord.at_ ps (l.take (j+1))) w9 from by
    refine⟨q++[(p,_)],by rw[ad8,HQ.out.1,HAT.out];rfl,fun x hx=> ?_,by rw[afG];simpa using aJ,HQ.out.2.2.trans aB⟩
    rcases aem.1 hx with hx|hx
    ·exact aX.below hbp _ _ (HQ.out.2.1 x hx)
    rw[ael.1 hx];exact aX.below hbp _ _ qx.out)
   clear aJ bI dD aB hbp p0 p1 p2 p3 p4 p5 hc qx HQ HQO HAT HB;go_wp2
   go_roundg kq
   case measure=>omega
   exact⟨j+1,A9,c9,int_eq (by omega),rfl,by have:=HJ.out;omega,HN.out⟩
  |zero=>
   obtain rfl:j=k:=by omega
   have ho:=HB.out;rw[ado (by rw[dJ.out];exact ac4 _),eG.out]at ho
   have hlen:(Gr.lS ps).length=j:=(by unfold Gr.lS Gr.jd;rw[apH];exact HL.out)
   have hc:=ak6 wr.heap.size A3 c3 j (Gr.lS ps) wr (ho.lst hlen (adg aK.out (adg HB2.size pK.size))) hlen (fun p hp=>aV.out p ((afz ps _).mem_iff.1 hp)) (ac4 _) hn
   have HC:=ah hc;have HB3:=ah (HB2.trans (pK.mono HB2.size));clear ho hlen hc hj HB pK
   go_wp2_with fail;refine HC.mono ?_;rintro e w9 ⟨v',rfl,hpo,aB⟩
   have HF:=ah (show cu 39 w9 w.heap.size v' (Gr.lS ps)/\Below w.heap.size w w9 from⟨hpo.base HB3.size,HB3.trans (aB.mono HB3.size)⟩)
   clear hpo aB HC;go_wp2;go_ret;exact⟨_,rfl,HF.out⟩
end Go.Proofs.YtkdakckjafomhaaGreatDoor
