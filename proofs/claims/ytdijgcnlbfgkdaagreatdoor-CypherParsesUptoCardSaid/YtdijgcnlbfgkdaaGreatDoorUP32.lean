/- Lemmas. -/
import Derived.Test.YtdijgcnlbfgkdaaGreatDoorUP31
set_option maxHeartbeats 64000000
set_option maxRecDepth 1000000
set_option linter.all false
namespace Go.Proofs.YtdijgcnlbfgkdaaGreatDoor
open Go.RowKit Go.Proofs.Tryz
def BL:(prog.info? 3).map (fun i=>(i.zero,i.size,i.bytes))=some (some (.int .i64 0),1,8):=by kernel_rfl
def IN (i:Nat):Value:=.int .i64 (i:Int)
def oU (nums:List Int) (texts:List (List UInt8)) (i j:Nat):Bool:=if 0<nums.length then decide (nums.getD i 0<=nums.getD j 0) else decide (texts.getD i []<=texts.getD j [])
def amg (nums:List Int) (texts:List (List UInt8)) (a b c:Nat) (h:oU nums texts a b=true) (k:oU nums texts b c=true):oU nums texts a c=true:=by
 unfold oU at*
 split at h
 ·rename_i h0
  rw[aeu h0]at k⊢;simp only[aeU] at*;omega
 rename_i h0;rw[aer h0]at k⊢;simp only[aeU] at*;exact arR h k
def amh (nums:List Int) (texts:List (List UInt8)) (a b:Nat):(oU nums texts a b || oU nums texts b a)=true:=by
 unfold oU
 split
 ·simp only[anO,aeU];omega
 simp only[anO,aeU];exact List.le_total _ _
def QB {α:Type} {l:List α} {i m:Nat} {a:α} (h:l[i]?=some a) (hm:i<m):(l.drop i).take (m - i)=a ::(l.drop (i+1)).take (m -(i+1)):=by
 obtain⟨hi,e⟩:=aeK.1 h;rw[afk hi,show m - i=(m -(i+1))+1 by omega,ag7,e]
def adK {α:Type} (l:List α) (a w n:Nat) (hn:l.length=n):(l.drop a).take w=(l.drop a).take (min (a+w) n - a):=by
 rcases Nat.le_total (a+w) n with h|h
 ·rw[Nat.min_eq_left h];congr 1;omega
 rw[Nat.min_eq_right h,aeG (by rw[ae1];omega),aeG (by rw[ae1];omega)]
structure lV (B:Nat) (W:World) (A:Option Addr) (c:Nat) (l:List Nat) (n:Nat) (w:World):Prop where
 own:w.ownsRow B 3 1 (.slice A n c) n (l.map IN)
 len:l.length=n
 bel:Below W.heap.size W w
def adL (nums:List Int) (texts:List (List UInt8)) (n:Nat) (w:World) (e:Ending) (w':World):Prop:=
 ∃A c l,e=.returned (.slice A n c)/\lV w.heap.size w A c l n w'/\l.Perm (List.range n)/\l.Pairwise (fun i j=>oU nums texts i j=true)
def QC (B:Nat) (An At:Option Addr) (nn cn tn ct:Nat) (nums:List Int) (texts:List (List UInt8)) (w:World) (hn:nums.length=nn) (ht:texts.length=tn) (rn:Reads w B 1 An nn (nums.map I64)) (rt:Reads w B 1 At tn (texts.map ST))
  (hB:B<=w.heap.size) (hone:nn=0\/tn=0) (hb:nn+tn<=1073741823):
  Calls prog 67 #[.slice An nn cn,.slice At tn ct] w (adL nums texts (nn+tn) w):=by
 refine gq4 rn rt (And.intro hn ht) hB fun fH QV bT HB=>?_;obtain⟨n,hnt⟩:=aj (nn+tn);have hadd:(nn:Int)+(tn:Int)=(n:Int):=by omega
 rw[hnt];have Df:(n:Int)<=1073741823:=by omega
 have SV:=ah hnt;have agI:=ah hone;obtain⟨le,hle⟩:=aj (oU nums texts);refine gq3 hle (fun a b c=>hle▸amg nums texts a b c) (fun a b=>hle▸amh nums texts a b) fun gI Jj HTO=>?_
 clear rn rt hn ht hB hnt hone hle hb;go_enter func67,ntmps67;have H0:=ah (show lV w.heap.size w (some ⟨w.heap.size,0,none⟩) 0 [] 0 (w.alloc (.cells #[] 3)) from⟨IG w _ _ 1 (aej _),rfl,(aoa _ w).alloc (aej _) _⟩)
 go_wp2_with fail
 go_loopg [6,7] n (fun q s x wr=> ∃(k:Nat) (A:Option Addr) (c:Nat),s=.slice A k c/\x=.int .i64 k/\k+q=n/\Hid (lV w.heap.size w A c (List.range k) k wr))
 case atStart=>exact⟨0,_,_,rfl,rfl,by omega,H0.out⟩
 obtain⟨k,A,c,rfl,rfl,hk,hs⟩:=hrel;have HS:Hid (lV w.heap.size w A c (List.range k) k wr):=hs;clear hs;cases gk with
 |succ q=>
  have hkn:(k:Int)<(n:Int):=by omega
  have hk3:k<1073741824:=by omega
  have HK:=ah hk;clear hk;go_wp2_with (at_builtin;refine jD rfl (.tmp 27) (.tmp 29) 138 3 (.int .i64 0) 8 asG BL rfl (by decide) rfl w.heap.size (.slice A k c) k ((List.range k).map IN) wr rfl HS.own _ rfl rfl hk3 HS.bel.size ?_)
  intro v9 w9 aY bC iq aB;obtain⟨A9,c9,rfl⟩:=aH aY;have HF:=ah (show lV w.heap.size w A9 c9 (List.range (k+1)) (k+1) w9 from⟨by rw[List.range_succ,afg];exact aY,aqR,HS.bel.trans aB⟩)
  clear aY bC iq aB;go_wp2
  go_roundg q
  case measure=>omega
  exact⟨k+1,A9,c9,rfl,int_eq (by omega),by have:=HK.out;omega,HF.out⟩
 |zero=>
  obtain rfl:k=n:=by omega
  have H1:=ah (show lV w.heap.size w A c (List.range k) k wr/\(List.range k).Perm (List.range k)/\Ord.Ch le 1 (List.range k) from⟨HS.out,.refl _,Ord.amc _⟩)
  have fQ: ¬(k:Int)<(k:Int):=by omega
  clear hk HS H0;go_wp2_with fail
  go_loopg [6,8] k (fun q s x wr=> ∃(d:Nat) (A:Option Addr) (c:Nat) (l:List Nat),s=.slice A k c/\x=.int .i64 d/\1<=d/\k<=d+q/\Hid (lV w.heap.size w A c l k wr/\l.Perm (List.range k)/\Ord.Ch le d l))
  case atStart=>exact⟨1,_,_,_,rfl,rfl,aej _,by omega,H1.out⟩
  obtain⟨d,A,c,l,rfl,rfl,hd1,Zi,hs⟩:=hrel;have HS:Hid (lV w.heap.size w A c l k wr/\l.Perm (List.range k)/\Ord.Ch le d l):=hs;clear hs H1;by_cases hdk:d<k
  case neg=>
   have t1:decide (d<k)=false:=dF hdk;have apD:(k:Int)<=(d:Int):=by omega
   have HF:=ah (show adL nums texts k w (.returned (.slice A k c)) wr from⟨A,c,l,rfl,HS.out.1,HS.out.2.1,by rw[gI.out];exact Ord.amd HS.out.2.2 (by rw[HS.out.1.len];omega)⟩)
   clear hd1 Zi hdk;go_wp2;go_ret;exact HF.out
  obtain⟨q,rfl⟩: ∃q,gk=q+1:=⟨gk - 1,by omega⟩
  have apD:(d:Int)<(k:Int):=by omega
  have HD:=ah (And.intro hd1 (And.intro Zi hdk));obtain⟨wP,hwP⟩: ∃x,x=wr:=⟨_,rfl⟩;subst hwP;obtain⟨P,hP⟩:=aj (Ord.pass le d l)
  have y7:=ah (show P.Perm (List.range k)/\Ord.Ch le (2*d) P/\P.length=k from by
   have h1:=(Ord.amb (le:=le) (w:=d) (by omega) _ l rfl).trans HS.out.2.1
   rw[hP]at h1
   exact⟨h1,hP▸Ord.ame (by omega) Jj.out HTO.out _ l rfl HS.out.2.2,by rw[h1.length_eq,aqR]⟩)
  have aZ:=ah (show Reads wP wP.heap.size 1 A k (l.map IN) from Reads.dZ HS.out.1.own)
  refine gq4 HS.out.1.len (fun(i:Nat) (a:Nat) (h:l[i]?=some a)=>show a<k from aou.1 (HS.out.2.1.mem_iff.1 (aew h))) HS.out.1.bel hP fun bY Dj zK HP=>?_
  have EU:=ah (show lV wP.heap.size wP (some ⟨wP.heap.size,0,none⟩) 0 [] 0 (wP.alloc (.cells #[] 3))/\ []++Ord.pass le d (l.drop 0)=P from⟨⟨IG wP _ _ 1 (aej _),rfl,(aoa _ wP).alloc (aej _) _⟩,by rw[afW,agJ];exact hP⟩)
  clear hP hd1 Zi hdk HS;go_wp2_with fail
  go_loopg [9,10] k (fun q s x wr=> ∃(f m:Nat) (A9:Option Addr) (c9:Nat) (l9:List Nat),s=.slice A9 m c9/\x=.int .i64 f/\k<=f+q/\f<=k+2*d/\Hid (lV wP.heap.size wP A9 c9 l9 m wr/\l9++Ord.pass le d (l.drop f)=P))
  case atStart=>exact⟨0,0,_,_,[],rfl,rfl,by omega,by omega,EU.out⟩
  obtain⟨f,m,A9,c9,l9,rfl,rfl,hf,hf2,hs⟩:=hrel;have HS:Hid (lV wP.heap.size wP A9 c9 l9 m wr/\l9++Ord.pass le d (l.drop f)=P):=hs;clear hs EU;by_cases hfk:f<k
  case neg=>
   have t1:decide (f<k)=false:=dF hfk;have apF:(k:Int)<=(f:Int):=by omega
   have zD:l9=P:=by
    have:=HS.out.2
    rwa [af8 (by rw[bY.out];omega),Ord.QA,afy]at this
   subst zD;obtain rfl:m=k:=by rw[<-HS.out.1.len];exact y7.out.2.2
   have HF:=ah (show lV w.heap.size w A9 c9 l9 m wr/\l9.Perm (List.range m)/\Ord.Ch le (d*2) l9 from⟨⟨jL HS.out.1.own zK.size,HS.out.1.len,zK.trans (HS.out.1.bel.mono zK.size)⟩,y7.out.1,by rw[ahe];exact y7.out.2.1⟩)
   clear hf hf2 hfk HS y7 HP;go_wp2
   go_roundg q
   case measure=>omega
   exact⟨d*2,A9,c9,l9,rfl,int_eq (by omega),by have:=HD.out;omega,by have:=HD.out;omega,HF.out⟩
  obtain⟨q3,rfl⟩: ∃q3,gk=q3+1:=⟨gk - 1,by omega⟩
  have apF:(f:Int)<(k:Int):=by omega
  obtain⟨mid,hmid⟩:=aj (min (f+d) k);obtain⟨en,hen⟩:=aj (min (f+2*d) k);have lD:=HD.out;have arY:min ((f:Int)+(d:Int)) (k:Int)=(mid:Int):=by omega
  have arZ:min ((f:Int)+2*(d:Int)) (k:Int)=(en:Int):=by omega
  obtain⟨R,hR⟩:=aj (Ord.pass le d (l.drop (f+2*d)))
  have HQ:=ah (show lV wP.heap.size wP A9 c9 l9 m wr/\l9++List.merge ((l.drop f).take (mid - f)) ((l.drop mid).take (en - mid)) le++R=P from⟨HS.out.1,by
   have h1:=HS.out.2
   have hne:l.drop f≠ []:=fun e=>by
    have:=afL List.length e;rw[ae1,bY.out,afQ]at this;omega
   rw[Ord.V9 hne (by omega),ahu,ahu,hR,adK l f d k bY.out,hmid]at h1
   have e2:(l.drop (f+d)).take d=(l.drop mid).take (en - mid):=by
    rcases Nat.le_total (f+d) k with h|h
    ·rw[adK l (f+d) d k bY.out,<-hmid,Nat.min_eq_left h,<-hen];congr 2;omega
    rw[af8 (by rw[bY.out];omega),af8 (by rw[bY.out];omega)];simp
   rw[e2]at h1;rw[afu]
   exact h1⟩)
  have Ij:=ah (show f<=mid/\mid<=en/\en<=k/\f<mid from by omega)
  have HFK:=ah (And.intro hf hf2);have HR:=ah hR;clear hmid hen hf hf2 hfk HS hR lD;go_wp2_with fail
  go_loopg [9,11,13] (en - f) (fun q s x y wr=> ∃(i j m:Nat) (A9:Option Addr) (c9:Nat) (l9:List Nat),s=.slice A9 m c9/\x=.int .i64 i/\y=.int .i64 j/\i<=mid/\mid<=j/\j<=en/\(mid - i)+(en - j)<=q/\Hid (lV wP.heap.size wP A9 c9 l9 m wr/\l9++List.merge ((l.drop i).take (mid - i)) ((l.drop j).take (en - j)) le++R=P))
  case atStart=>exact⟨f,mid,m,_,_,l9,rfl,rfl,rfl,Ij.out.1,aej _,Ij.out.2.1,by have:=Ij.out;omega,HQ.out⟩
  obtain⟨i,j,m,A9,c9,l9,rfl,rfl,rfl,hi,hj,hje,hq,hs⟩:=hrel;have HS:Hid (lV wP.heap.size wP A9 c9 l9 m wr/\l9++List.merge ((l.drop i).take (mid - i)) ((l.drop j).take (en - j)) le++R=P):=hs;clear hs HQ;have AZ:=ah (show l9.length<=P.length from by have:=afL List.length HS.out.2;rw[afu,aeo]at this;omega)
  have xP:m<1073741824:=by have:=AZ.out;rw[HS.out.1.len,y7.out.2.2]at this;omega
  rcases Decidable.em (i<mid) with him|him<;>rcases Decidable.em (j<en) with hjn|hjn
  ·
   have hik:i<k:=by have:=Ij.out;omega
   have hjk:j<k:=by have:=Ij.out;omega
   obtain⟨a,ha⟩: ∃a,l[i]?=some a:=⟨_,aen (by rw[bY.out];exact hik)⟩
   obtain⟨b,hb⟩: ∃b,l[j]?=some b:=⟨_,aen (by rw[bY.out];exact hjk)⟩
   have hak:=Dj.out i a ha;have hbk:=Dj.out j b hb;obtain⟨p,o,x,rfl,-,hx,hp⟩:=(aZ.below HS.out.1.bel).cell hik;obtain⟨p',o',y,e',-,hy,hp'⟩:=(aZ.below HS.out.1.bel).cell hjk;cases e';rw[aeY,ha]at hx;rw[aeY,hb]at hy;obtain rfl:=aeM hx;obtain rfl:=aeM hy;simp only[IN]at hp hp';have t1:decide (i<mid)=true:=aei him;have t2:decide (j<en)=true:=aei hjn;have u1:(i:Int)<(mid:Int):=by omega
   have u2:(j:Int)<(en:Int):=by omega
   have t3:((j:Int) ==(en:Int))=false:=by rw[aek];omega
   have apH:(i:Int)<(k:Int):=by omega
   have YJ:(j:Int)<(k:Int):=by omega
   have pi:(0:Int)<=(i:Int):=by omega
   have pj:(0:Int)<=(j:Int):=by omega
   have ti:((i:Int)).toNat=i:=by omega
   have tj:((j:Int)).toNat=j:=by omega
   have pa:(0:Int)<=(a:Int):=by omega
   have pb:(0:Int)<=(b:Int):=by omega
   have ta:((a:Int)).toNat=a:=by omega
   have tb:((b:Int)).toNat=b:=by omega
   have hxs:(l.drop i).take (mid - i)=a ::(l.drop (i+1)).take (mid -(i+1)):=QB ha him;have hys:(l.drop j).take (en - j)=b ::(l.drop (j+1)).take (en -(j+1)):=QB hb hjn
   have HSL:=ah (fun(h:le a b=true)=>show(l9++[a])++List.merge ((l.drop (i+1)).take (mid -(i+1))) ((l.drop j).take (en - j)) le++R=P from by
    have:=HS.out.2;rw[hxs,hys,Ord.amf h,<-hys]at this
    simpa using this)
   have iJ:=ah (fun(h:le a b=false)=>show(l9++[b])++List.merge ((l.drop i).take (mid - i)) ((l.drop (j+1)).take (en -(j+1))) le++R=P from by
    have:=HS.out.2;rw[hxs,hys,Ord.merge_right h,<-hxs]at this
    simpa using this)
   have EW:=ah (And.intro him (And.intro hjn (And.intro hi (And.intro hj (And.intro hje hq)))));have fK:=ah HS.out.1;obtain⟨lab,hlab⟩:=aj (le a b);have J5:=ah hlab;clear hx hy ha hb hxs hys him hjn hi hj hje hq hlab HS AZ hik hjk;by_cases h0:0<nn
   case' pos=>
    have han:a<nn:=by have:=SV.out;have:=agI.out;omega
    have hbn:b<nn:=by have:=SV.out;have:=agI.out;omega
    have t0:decide (0<nn)=true:=aei h0;have t0I:decide ((0:Int)<(nn:Int))=true:=aei (by omega)
    have u0:(0:Int)<(nn:Int):=by omega
    have apI:(a:Int)<(nn:Int):=by omega
    have X3:(b:Int)<(nn:Int):=by omega
    obtain⟨g,go,x,e1,-,hx,kx⟩:=(fH.below ((zK.mono HB.out).trans (fK.bel.mono (aep HB.out zK.size)))).cell han;obtain⟨g',go',y,e2,-,hy,ky⟩:=(fH.below ((zK.mono HB.out).trans (fK.bel.mono (aep HB.out zK.size)))).cell hbn;rw[e1]at e2;cases e2;rw[aeY]at hx hy;obtain⟨X,hX,rfl⟩:=afr.1 hx;obtain⟨Y,hY,rfl⟩:=afr.1 hy;simp only[I64]at kx ky
    have hcmp:decide (X<=Y)=lab:=by
     rw[<-J5.out,<-gI.out];unfold oU;rw[aeu (by rw[bT.out.1];exact h0),agP,agP,hX,hY]
     rfl
    subst e1;clear hx hy hX hY h0 han hbn hak hbk
   case' neg=>
    obtain rfl:nn=0:=by omega
    have han:a<tn:=by have:=SV.out;omega
    have hbn:b<tn:=by have:=SV.out;omega
    have apI:(a:Int)<(tn:Int):=by omega
    have X3:(b:Int)<(tn:Int):=by omega
    obtain⟨g,go,x,e1,-,hx,kx⟩:=(QV.below ((zK.mono HB.out).trans (fK.bel.mono (aep HB.out zK.size)))).cell han;obtain⟨g',go',y,e2,-,hy,ky⟩:=(QV.below ((zK.mono HB.out).trans (fK.bel.mono (aep HB.out zK.size)))).cell hbn;rw[e1]at e2;cases e2;rw[aeY]at hx hy;obtain⟨X,hX,rfl⟩:=afr.1 hx;obtain⟨Y,hY,rfl⟩:=afr.1 hy;unfold ST at kx ky;obtain⟨zx,hzx⟩:=aj (⟨X.toArray⟩:ByteArray);obtain⟨zy,hzy⟩:=aj (⟨Y.toArray⟩:ByteArray);rw[hzx]at kx;rw[hzy]at ky
    have hcmp:decide (X<=Y)=lab:=by
     rw[<-J5.out,<-gI.out];unfold oU;rw[aer (by rw[bT.out.1];omega),agP,agP,hX,hY]
     rfl
    obtain⟨b1,hb1⟩:=aj (Op.bytesLess zx.toList zy.toList);obtain⟨b2,hb2⟩:=aj (zx.toList == zy.toList)
    have ar1:(b1 || b2)=lab:=by
     rw[<-hcmp,<-hb1,<-hb2,aod,aod,<-hzx,<-hzy];exact IQ X Y
    subst e1;clear hx hy hX hY h0 han hbn hak hbk hzx hzy hcmp
   all_goals cases lab
   ·
    go_upto_region 19 with fail
    go_quiet (fail)
    have dQ:=ah (show(wr.drewN nq).ownsRow wP.heap.size 3 1 (.slice A9 m c9) m (l9.map IN) from fK.own)
    obtain⟨w5,hw5⟩:=aj (wr.drewN nq);have dI:=ah (show Below wP.heap.size wP w5 from hw5▸below_drewN fK.bel nq)
    have c5:w5.cell? ⟨p,o+j,none⟩=some (.int .i64 (b:Nat)):=hw5▸hp';rw[hw5]at dQ⊢;clear hp hp' kx ky hw5;go_wp2_with (at_builtin;refine jD rfl (.tmp 123) (.tmp 128) 138 3 (.int .i64 0) 8 asG BL rfl (by decide) rfl wP.heap.size (.slice A9 m c9) m (l9.map IN) w5 rfl dQ.out _ rfl rfl xP dI.size ?_)
    intro v9 w9 aY bC iq aB;obtain⟨A8,c8,rfl⟩:=aH aY;have HF:=ah (show lV wP.heap.size wP A8 c8 (l9++[b]) (m+1) w9/\_ from⟨⟨by rw[afg];exact aY,by rw[aeo,fK.len];rfl,dI.trans aB⟩,iJ.out J5.out⟩)
    clear aY bC iq aB c5;have Ik:=EW.out;go_wp2
    go_roundg (gk - 1)
    case measure=>omega
    exact⟨i,j+1,m+1,A8,c8,_,rfl,rfl,int_eq (by omega),by omega,by omega,by omega,by omega,HF.out⟩
   ·
    go_upto_region 19 with fail
    go_quiet (fail)
    have dQ:=ah (show(wr.drewN nq).ownsRow wP.heap.size 3 1 (.slice A9 m c9) m (l9.map IN) from fK.own)
    obtain⟨w5,hw5⟩:=aj (wr.drewN nq);have dI:=ah (show Below wP.heap.size wP w5 from hw5▸below_drewN fK.bel nq)
    have c5:w5.cell? ⟨p,o+i,none⟩=some (.int .i64 (a:Nat)):=hw5▸hp;rw[hw5]at dQ⊢;clear hp hp' kx ky hw5;go_wp2_with (at_builtin;refine jD rfl (.tmp 114) (.tmp 119) 138 3 (.int .i64 0) 8 asG BL rfl (by decide) rfl wP.heap.size (.slice A9 m c9) m (l9.map IN) w5 rfl dQ.out _ rfl rfl xP dI.size ?_)
    intro v9 w9 aY bC iq aB;obtain⟨A8,c8,rfl⟩:=aH aY;have HF:=ah (show lV wP.heap.size wP A8 c8 (l9++[a]) (m+1) w9/\_ from⟨⟨by rw[afg];exact aY,by rw[aeo,fK.len];rfl,dI.trans aB⟩,HSL.out J5.out⟩)
    clear aY bC iq aB c5;have Ik:=EW.out;go_wp2
    go_roundg (gk - 1)
    case measure=>omega
    exact⟨i+1,j,m+1,A8,c8,_,rfl,int_eq (by omega),rfl,by omega,by omega,by omega,by omega,HF.out⟩
   ·
    go_upto_region 20 with fail
    go_quiet (fail)
    have dQ:=ah (show(wr.drewN nq).ownsRow wP.heap.size 3 1 (.slice A9 m c9) m (l9.map IN) from fK.own)
    obtain⟨w5,hw5⟩:=aj (wr.drewN nq);have dI:=ah (show Below wP.heap.size wP w5 from hw5▸below_drewN fK.bel nq)
    have c5:w5.cell? ⟨p,o+j,none⟩=some (.int .i64 (b:Nat)):=hw5▸hp';rw[hw5]at dQ⊢;clear hp hp' kx ky hw5;go_wp2_with (at_builtin;refine jD rfl (.tmp 123) (.tmp 128) 138 3 (.int .i64 0) 8 asG BL rfl (by decide) rfl wP.heap.size (.slice A9 m c9) m (l9.map IN) w5 rfl dQ.out _ rfl rfl xP dI.size ?_)
    intro v9 w9 aY bC iq aB;obtain⟨A8,c8,rfl⟩:=aH aY;have HF:=ah (show lV wP.heap.size wP A8 c8 (l9++[b]) (m+1) w9/\_ from⟨⟨by rw[afg];exact aY,by rw[aeo,fK.len];rfl,dI.trans aB⟩,iJ.out J5.out⟩)
    clear aY bC iq aB c5;have Ik:=EW.out;go_wp2
    go_roundg (gk - 1)
    case measure=>omega
    exact⟨i,j+1,m+1,A8,c8,_,rfl,rfl,int_eq (by omega),by omega,by omega,by omega,by omega,HF.out⟩
   go_upto_region 20 with fail
   go_quiet (fail)
   have dQ:=ah (show(wr.drewN nq).ownsRow wP.heap.size 3 1 (.slice A9 m c9) m (l9.map IN) from fK.own)
   obtain⟨w5,hw5⟩:=aj (wr.drewN nq);have dI:=ah (show Below wP.heap.size wP w5 from hw5▸below_drewN fK.bel nq)
   have c5:w5.cell? ⟨p,o+i,none⟩=some (.int .i64 (a:Nat)):=hw5▸hp;rw[hw5]at dQ⊢;clear hp hp' kx ky hw5;go_wp2_with (at_builtin;refine jD rfl (.tmp 114) (.tmp 119) 138 3 (.int .i64 0) 8 asG BL rfl (by decide) rfl wP.heap.size (.slice A9 m c9) m (l9.map IN) w5 rfl dQ.out _ rfl rfl xP dI.size ?_)
   intro v9 w9 aY bC iq aB;obtain⟨A8,c8,rfl⟩:=aH aY;have HF:=ah (show lV wP.heap.size wP A8 c8 (l9++[a]) (m+1) w9/\_ from⟨⟨by rw[afg];exact aY,by rw[aeo,fK.len];rfl,dI.trans aB⟩,HSL.out J5.out⟩)
   clear aY bC iq aB c5;have Ik:=EW.out;go_wp2
   go_roundg (gk - 1)
   case measure=>omega
   exact⟨i+1,j,m+1,A8,c8,_,rfl,int_eq (by omega),rfl,by omega,by omega,by omega,by omega,HF.out⟩
  ·
   have hik:i<k:=by have:=Ij.out;omega
   obtain⟨a,ha⟩: ∃a,l[i]?=some a:=⟨_,aen (by rw[bY.out];exact hik)⟩
   obtain⟨p,o,x,rfl,-,hx,hp⟩:=(aZ.below HS.out.1.bel).cell hik;rw[aeY,ha]at hx;obtain rfl:=aeM hx;simp only[IN]at hp;have t1:decide (i<mid)=true:=aei him;have t2:decide (j<en)=false:=dF hjn;have u1:(i:Int)<(mid:Int):=by omega
   have u2:(en:Int)<=(j:Int):=by omega
   have t3:((j:Int) ==(en:Int))=true:=by rw[afc];omega
   have hst:(l9++[a])++List.merge ((l.drop (i+1)).take (mid -(i+1))) ((l.drop j).take (en - j)) le++R=P:=by
    have:=HS.out.2;rw[show en - j=0 by omega,agL,List.merge_right,QB ha him]at this
    rw[show en - j=0 by omega,agL,List.merge_right]
    simpa using this
   have apH:(i:Int)<(k:Int):=by omega
   have pi:(0:Int)<=(i:Int):=by omega
   have ti:((i:Int)).toNat=i:=by omega
   refine gq3 (And.intro him (And.intro hjn (And.intro hi (And.intro hj (And.intro hje hq))))) HS.out.1 hst fun EW fK HST=>?_;clear hx ha him hjn hi hj hje hq HS AZ hik hst;go_wp2_with (at_builtin;refine jD rfl (.tmp 114) (.tmp 119) 138 3 (.int .i64 0) 8 asG BL rfl (by decide) rfl wP.heap.size (.slice A9 m c9) m (l9.map IN) wr rfl fK.own _ rfl rfl xP fK.bel.size ?_)
   intro v9 w9 aY bC iq aB;obtain⟨A8,c8,rfl⟩:=aH aY;have HF:=ah (show lV wP.heap.size wP A8 c8 (l9++[a]) (m+1) w9/\_ from⟨⟨by rw[afg];exact aY,by rw[aeo,fK.len];rfl,fK.bel.trans aB⟩,HST.out⟩)
   clear aY bC iq aB hp;have Ik:=EW.out;go_wp2
   go_roundg (gk - 1)
   case measure=>omega
   exact⟨i+1,j,m+1,A8,c8,_,rfl,int_eq (by omega),rfl,by omega,by omega,by omega,by omega,HF.out⟩
  ·
   have hjk:j<k:=by have:=Ij.out;omega
   obtain⟨a,ha⟩: ∃a,l[j]?=some a:=⟨_,aen (by rw[bY.out];exact hjk)⟩
   obtain⟨p,o,x,rfl,-,hx,hp⟩:=(aZ.below HS.out.1.bel).cell hjk;rw[aeY,ha]at hx;obtain rfl:=aeM hx;simp only[IN]at hp;have t1:decide (i<mid)=false:=dF him;have t2:decide (j<en)=true:=aei hjn;have u1:(mid:Int)<=(i:Int):=by omega
   have u2:(j:Int)<(en:Int):=by omega
   have t3:((j:Int) ==(en:Int))=false:=by rw[aek];omega
   have hst:(l9++[a])++List.merge ((l.drop i).take (mid - i)) ((l.drop (j+1)).take (en -(j+1))) le++R=P:=by
    have:=HS.out.2;rw[show mid - i=0 by omega,agL,List.nil_merge,QB ha hjn]at this
    rw[show mid - i=0 by omega,agL,List.nil_merge]
    simpa using this
   have YJ:(j:Int)<(k:Int):=by omega
   have pj:(0:Int)<=(j:Int):=by omega
   have tj:((j:Int)).toNat=j:=by omega
   refine gq3 (And.intro him (And.intro hjn (And.intro hi (And.intro hj (And.intro hje hq))))) HS.out.1 hst fun EW fK HST=>?_;clear hx ha him hjn hi hj hje hq HS AZ hjk hst;go_wp2_with (at_builtin;refine jD rfl (.tmp 123) (.tmp 128) 138 3 (.int .i64 0) 8 asG BL rfl (by decide) rfl wP.heap.size (.slice A9 m c9) m (l9.map IN) wr rfl fK.own _ rfl rfl xP fK.bel.size ?_)
   intro v9 w9 aY bC iq aB;obtain⟨A8,c8,rfl⟩:=aH aY;have HF:=ah (show lV wP.heap.size wP A8 c8 (l9++[a]) (m+1) w9/\_ from⟨⟨by rw[afg];exact aY,by rw[aeo,fK.len];rfl,fK.bel.trans aB⟩,HST.out⟩)
   clear aY bC iq aB hp;have Ik:=EW.out;go_wp2
   go_roundg (gk - 1)
   case measure=>omega
   exact⟨i,j+1,m+1,A8,c8,_,rfl,rfl,int_eq (by omega),by omega,by omega,by omega,by omega,HF.out⟩
  have t1:decide (i<mid)=false:=dF him;have t2:decide (j<en)=false:=dF hjn;have u1:(mid:Int)<=(i:Int):=by omega
  have u2:(en:Int)<=(j:Int):=by omega
  have hfin:l9++Ord.pass le d (l.drop (f+2*d))=P:=by
   have:=HS.out.2;rw[show mid - i=0 by omega,show en - j=0 by omega,agL,agL]at this
   rw[HR.out]
   simpa using this
  have HF:=ah (And.intro HS.out.1 hfin);have Ik:=HFK.out;have HHD:=HD.out;have aP:=ah (show f+2*d<=k+2*d/\k<=f+2*d+q3 from by omega)
  clear HS AZ hfin him hjn hi hj hje hq Ik HHD;go_wp2
  go_roundg q3
  case measure=>omega
  exact⟨f+2*d,m,A9,c9,l9,rfl,int_eq (by omega),aP.out.2,aP.out.1,HF.out⟩
def uw.ami {W:World} {B:Nat} {u:Value} {v:au.V} {z:ByteArray} (h:uw W B u v) (hz:(⟨v.text.toArray⟩:ByteArray)=z): ∃A1 c1 A2 c2,u=.agg #[.int .i64 v.kind,.int .i64 v.num,.string z,.slice A1 v.nums.length c1,.slice A2 v.texts.length c2]/\W.ownsRow B 2 1 (.slice A1 v.nums.length c1) v.nums.length (v.nums.map I64)/\W.ownsRow B 9 1 (.slice A2 v.texts.length c2) v.texts.length (v.texts.map ST):=by
 obtain⟨s,t,e,h1,h2⟩:=h.ex;obtain⟨A1,c1,rfl⟩:=aH h1;obtain⟨A2,c2,rfl⟩:=aH h2;exact⟨A1,c1,A2,c2,by rw[<-hz];exact e,h1,h2⟩
def aT.parts {T:TypeId} {W:World} {B k:Nat} {v:Value} {ps:List Gr.P} (h:aT T W B v ps) (hk:ps.length=k): ∃l:List (Gr.P×List Value),l.map Prod.fst=ps/\(∀x∈l,eG W B x)/\W.ownsRow B T 6 v k (l.flatMap Prod.snd):=by
 subst hk;exact h
def amj (B:Nat) (A:Option Addr) (c n:Nat) (ps:List Gr.P) (w:World) (h:dD w B 6 (bg w B) A ps) (hl:ps.length=n) (hok: ∀p∈ps,vT p) (hB:B<=w.heap.size) (hn:n<=67108864):
  Calls prog 116 #[.slice A n c] w fun e w'=> ∃v',e=.returned v'/\aT 143 w' w.heap.size v' ps/\Below w.heap.size w w':=by
 refine gq4 h hl hok hB fun H HL bF aN=>?_
 have HS:=ah (show aT 143 (w.alloc (.cells #[] 143)) w.heap.size (.slice (some ⟨w.heap.size,0,none⟩) 0 0) (ps.take 0)/\Below w.heap.size w (w.alloc (.cells #[] 143)) from
  ⟨⟨[],by simp,by simp,by simpa using qB w 143 6⟩,(aoa _ w).alloc (aej _) _⟩)
 clear h hl hok hB;go_enter func116,ntmps116;go_wp2_with fail
 go_loopg [4,3] n (fun kx x y wr=> ∃(k:Nat) (A':Option Addr) (c':Nat),x=.int .i64 k/\y=.slice A' k c'/\k+kx=n/\Hid (aT 143 wr w.heap.size (.slice A' k c') (ps.take k)/\Below w.heap.size w wr))
 case atStart=>exact⟨0,_,_,rfl,rfl,by omega,HS.out⟩
 obtain⟨k,A',c',rfl,rfl,hk,hb⟩:=hrel;have HB:Hid (aT 143 wr w.heap.size (.slice A' k c') (ps.take k)/\Below w.heap.size w wr):=hb;clear hb HS;cases gk with
 |zero=>
  obtain rfl:k=n:=by omega
  clear hk;go_wp2;go_ret;exact⟨_,rfl,by have:=HB.out.1;rwa [aeG (by rw[HL.out];exact aej _)]at this,HB.out.2⟩
 |succ kq=>
  have hkn:k<n:=by omega
  have dW:(k:Int)<n:=by omega
  have pk:(0:Int)<=(k:Int):=by omega
  have tk:((k:Int)).toNat=k:=by omega
  obtain⟨p,hp⟩: ∃p,ps[k]?=some p:=⟨_,aen (by rw[HL.out];exact hkn)⟩
  have hsz:=HB.out.2.size;have hBw:=HB.out.2.mono aN.out;obtain⟨b,o,An,cn,At,ct,rfl,hlt,⟨p0,p1,p2,p3,p4,p5⟩,ra,rb⟩:=(H.out.below hBw (bg.below hBw)).prop hp;have iV:=bF.out p (aew hp);have SX:=fun(V:World) (hb:Below wr.heap.size wr V)=>ai7 B _ p.val V ((zX (cn:=cn) (ct:=ct) iV.val ra rb).below (hb.mono (aep aN.out hsz))) (aep aN.out (aep hsz hb.size))
  simp only[ST]at p0 p3 SX;obtain⟨z1,hz1⟩:=aj (⟨p.key.toArray⟩:ByteArray);obtain⟨z2,hz2⟩:=aj (⟨p.val.text.toArray⟩:ByteArray);rw[hz1]at p0;rw[hz2]at p3 SX;have hbl:=afn hlt aN.out
  have HKK:Hid (∀w',Below w.heap.size wr w'->w'.cell? ⟨b,o+k*6,none⟩=some (.string z1)/\w'.cell? ⟨b,o+k*6+1,none⟩=some (.int .i64 p.val.kind)/\w'.cell? ⟨b,o+k*6+2,none⟩=some (.int .i64 p.val.num)/\w'.cell? ⟨b,o+k*6+3,none⟩=some (.string z2)/\w'.cell? ⟨b,o+k*6+4,none⟩=some (.slice An p.val.nums.length cn)/\w'.cell? ⟨b,o+k*6+5,none⟩=some (.slice At p.val.texts.length ct)):=fun w' hb=>
   ⟨(hb.cell (p:=⟨b,o+k*6,none⟩) hbl).trans p0,(hb.cell (p:=⟨b,o+k*6+1,none⟩) hbl).trans p1,(hb.cell (p:=⟨b,o+k*6+2,none⟩) hbl).trans p2,(hb.cell (p:=⟨b,o+k*6+3,none⟩) hbl).trans p3,(hb.cell (p:=⟨b,o+k*6+4,none⟩) hbl).trans p4,(hb.cell (p:=⟨b,o+k*6+5,none⟩) hbl).trans p5⟩
  have HVC:=ah SX;have hbd:Below wr.heap.size wr wr.drew:=(aoa _ wr).drew;refine gq4 hbd (And.intro hp (And.intro hz1 hz2)) hk hsz fun dY HP HK bf=>?_;have kJ:=ah (show(ps.take k).length=k by rw[afo,HL.out];omega)
  have h5:k<536870912:=by omega
  clear SX hbd hp hz1 hz2 hk ra rb iV hlt hBw hsz;go_wp2_with fail
  go_region_held3 (fun w'=>w'.cell? ⟨b,o+k*6,none⟩=some (.string z1)/\w'.cell? ⟨b,o+k*6+1,none⟩=some (.int .i64 p.val.kind)/\w'.cell? ⟨b,o+k*6+2,none⟩=some (.int .i64 p.val.num)/\w'.cell? ⟨b,o+k*6+3,none⟩=some (.string z2)/\w'.cell? ⟨b,o+k*6+4,none⟩=some (.slice An p.val.nums.length cn)/\w'.cell? ⟨b,o+k*6+5,none⟩=some (.slice At p.val.texts.length ct)) (first|go_keep|exact HKK.out _ hq8|exact HKK.out _ (hq.mono bf.out)|fail)
   ((first|(go_at_call 169;refine(HVC.out _ dY.out).mono ?_;rintro e w7 ⟨u7,rfl,EX,hb7⟩;have hq:Below wr.heap.size wr w7:=dY.trans hb7;have Rh:=EX.ami HP.out.2.2;clear EX;obtain⟨A1,c1,A2,c2,rfl,Ci,ht7⟩:=Rh;have Cj:=(HB.out.1.below hq).parts kJ.out;obtain⟨l7,EY,hx7,Et⟩:=Cj;have sK:=ah (And.intro EY (And.intro hx7 (And.intro Et (And.intro Ci ht7))));have QZ:=aep HB.out.2.size hq.size;clear EY hx7 Et Ci ht7 hb7)|(refine FV rfl (.tmp 12) (.tmp 25) 35 143 (.agg #[.string ⟨#[]⟩,.int .i64 0,.int .i64 0,.string ⟨#[]⟩,.slice none 0 0,.slice none 0 0]) 6 96 asX Vs rfl (by decide) (by decide) rfl w.heap.size (.slice A' k c') k (l7.flatMap Prod.snd) w7 rfl sK.out.2.2.1 [.string z1,.int .i64 p.val.kind,.int .i64 p.val.num,.string z2,.slice A1 p.val.nums.length c1,.slice A2 p.val.texts.length c2] _ rfl rfl (by simp[Value.oneCell']) rfl h5 QZ ?_;intro v9 w9 aY bC iq aB;have hq8:=(hq.mono bf.out).trans aB)|fail))
  have HE:=ah (aT.put (T:=143) (p:=p) (v:=.slice A' k c') (v':=v9) (ps:=ps.take k) ⟨by decide,by decide⟩ sK.out.1 sK.out.2.1 (show eG w7 w.heap.size (p,[.string z1,.int .i64 p.val.kind,.int .i64 p.val.num,.string z2,.slice A1 p.val.nums.length c1,.slice A2 p.val.texts.length c2]) from⟨_,_,by rw[<-HP.out.2.1,<-HP.out.2.2];rfl,own_base sK.out.2.2.2.1 bf.out,own_base sK.out.2.2.2.2 bf.out⟩) (by rw[kJ.out];exact sK.out.2.2.1) bC (by rw[kJ.out];exact aY))
  have E8:=aH aY;obtain⟨A9,c9,rfl⟩:=E8;have J6:=ah (HB.out.2.trans ((hq.mono bf.out).trans aB));clear aY bC iq aB hq8;go_wp2
  go_roundg kq
  case measure=>omega
  refine⟨k+1,A9,c9,rfl,rfl,by have:=HK.out;omega, ?_,J6.out⟩
  have ht:ps.take (k+1)=ps.take k++[p]:=by rw[afS,HP.out.1];rfl
  rw[ht];exact HE.out
def Ord.at_ {α:Type} (ps:List α) (l:List Nat):List α:=l.filterMap fun i=>ps[i]?
def Ord.adM {α:Type}: ∀ps:List α,Ord.at_ ps (List.range ps.length)=ps:=by
 intro ps
 induction ps with
 |nil=>rfl
 |cons a r ih=>
  unfold Ord.at_ at*;rw[ae7,List.range_succ_eq_map,List.filterMap_cons,List.filterMap_map];simp only[aev]
  congr 1
def Ord.adN {α:Type} {ps:List α} {l:List Nat} {k i:Nat} {a:α} (hl:l[k]?=some i) (ha:ps[i]?=some a):Ord.at_ ps (l.take (k+1))=Ord.at_ ps (l.take k)++[a]:=by
 unfold Ord.at_;rw[afS,hl,List.filterMap_append];simp[ha]
def Ord.sorted {α κ:Type} {le:κ->κ->Bool} (K:Key le) {key:α->κ} {ps:List α} {l:List Nat} {n:Nat} (hn:ps.length=n) (hd:(ps.map key).Nodup) (hp:l.Perm (List.range n)) {r:Nat->Nat->Bool} (hs:l.Pairwise fun i j=>r i j=true)
  (hr: ∀i j a b,ps[i]?=some a->ps[j]?=some b->r i j=le (key a) (key b)):Ord.at_ ps l=Gr.mY le key ps:=by
 subst hn;refine Vq K hd ((hp.filterMap _).trans (.of_eq (Ord.adM ps))) ?_;rw[apG];unfold Ord.at_;rw[arJ];exact hs.imp fun {i j} h a ha b hb=>by rw[<-hr i j a b ha hb];exact h
def Ord.lt {l:List Nat} {n k i:Nat} (hp:l.Perm (List.range n)) (h:l[k]?=some i):i<n:=aou.1 (hp.mem_iff.1 (aew h))
def adO {α:Type} (key:α->List UInt8) (ps:List α) (i j:Nat) (a b:α) (ha:ps[i]?=some a) (hb:ps[j]?=some b):oU [] (ps.map key) i j=decide (key a<=key b):=by
 unfold oU;rw[aer (by simp),agP,agP,aeY,aeY,ha,hb]
 rfl
def adP {α:Type} (key:α->Int) (ps:List α) (i j:Nat) (a b:α) (ha:ps[i]?=some a) (hb:ps[j]?=some b):oU (ps.map key) [] i j=decide (key a<=key b):=by
 unfold oU;rw[aeu (by rw[aeP];exact aqw (anH _) (aeK.1 ha).1),agP,agP,aeY,aeY,ha,hb]
 rfl
def Ord.amk {ps:List (List UInt8)} {l:List Nat} {n:Nat} (hn:ps.length=n) (hp:l.Perm (List.range n)) (hs:l.Pairwise fun i j=>oU [] ps i j=true):Ord.at_ ps l=Gr.vG ps:=by
 subst hn;have ht:=arH (le:=fun a b:List UInt8=>decide (a<=b)) (fun a b c=>FY.trans _ _ _) (fun a b=>FY.total _ _) ps
 refine(((hp.filterMap _).trans (.of_eq (Ord.adM ps))).trans (ag8 ps _).symm).eq_of_pairwise (le:=fun a b=>decide (a<=b)=true) (fun x y _ _ h1 h2=>FY.anti _ _ h1 h2) ?_ ht
 unfold Ord.at_;rw[arJ]
 exact hs.imp fun {i j} h a ha b hb=>by
  have:=adO id ps i j a b ha hb;rw[List.map_id]at this;rw[<-show oU [] ps i j=decide (a<=b) from this];exact h
def dD.aml {α β:Type} {W:World} {B size:Nat} {R:α->List Value->Prop} {R':β->List Value->Prop} {A:Option Addr} {l:List α} {f:α->β} (h:dD W B size R A l) (hR: ∀a cs,R a cs->R' (f a) cs):dD W B size R' A (l.map f):=fun i a ha=>by
 rw[aeY]at ha;obtain⟨x,hx,rfl⟩:=afr.1 ha;obtain⟨b,off,cs,e,hlt,hr,hl,hc⟩:=h i x hx;exact⟨b,off,cs,e,hlt,hR _ _ hr,hl,hc⟩
def QD (w:World) (A:Option Addr) (c k:Nat) (ps:List Gr.P) (V:World):Prop:=V.ownsRow w.heap.size 9 1 (.slice A k c) k ((ps.take k).map fun p=>ST p.key)/\Below w.heap.size w V
def Ee (B:Nat) (w:World) (A:Option Addr) (c k:Nat) (xs:List Gr.P) (V:World):Prop:=
 ∃q:List (Gr.P×List Value),q.map Prod.fst=xs/\(∀x∈q,bg V B x.1 x.2)/\V.ownsRow w.heap.size 143 6 (.slice A k c) k (q.flatMap Prod.snd)/\Below w.heap.size w V
def Ee.bel {B:Nat} {w V:World} {A:Option Addr} {c k:Nat} {xs:List Gr.P} (h:Ee B w A c k xs V):Below w.heap.size w V:=by
 obtain⟨_,-,-,-,h⟩:=h;exact h
def Ee.lst {B:Nat} {w V:World} {A:Option Addr} {c k:Nat} {xs:List Gr.P} (h:Ee B w A c k xs V) (hx:xs.length=k) (hB:B<=V.heap.size):dD V V.heap.size 6 (bg V V.heap.size) A xs:=by
 obtain⟨q,hq,h1,h2,-⟩:=h;have hl:q.length=k:=by rw[<-hx,<-hq,aeP]
 subst hl;have:=dD.dZ (R:=fun(a:Gr.P×List Value) cs=>bg V V.heap.size a.1 cs) (f:=Prod.snd) h2 (fun a ha=>(h1 a ha).len) (fun a ha=>bg.more hB _ _ (h1 a ha))
 rw[<-hq];exact this.aml fun _ _ h=>h
def adQ (B:Nat) (A:Option Addr) (c n:Nat) (ps:List Gr.P) (w:World) (h:dD w B 6 (bg w B) A ps) (hl:ps.length=n) (hok: ∀p∈ps,vT p) (hd:(ps.map Gr.P.key).Nodup) (hB:B<=w.heap.size) (hn:n<=67108864):
  Calls prog 68 #[.slice A n c] w fun e w'=> ∃v',e=.returned v'/\aT 143 w' w.heap.size v' (Gr.kV ps)/\Below w.heap.size w w':=by
 refine gq5 h hl hok hd hB fun H HL bF HD aN=>?_;have HS:=ah (show QD w (some ⟨w.heap.size,0,none⟩) 0 0 ps (w.alloc (.cells #[] 9)) from⟨by simpa using qB w 9 1,(aoa _ w).alloc (aej _) _⟩)
 clear h hl hok hd hB;go_enter func68,ntmps68;go_wp2_with fail
 go_loopg [4,3] n (fun kx x y wr=> ∃(k:Nat) (A':Option Addr) (c':Nat),x=.int .i64 k/\y=.slice A' k c'/\k+kx=n/\Hid (QD w A' c' k ps wr))
 case atStart=>exact⟨0,_,_,rfl,rfl,by omega,HS.out⟩
 obtain⟨k,A',c',rfl,rfl,hk,hb⟩:=hrel;have HB:Hid (QD w A' c' k ps wr):=hb;clear hb HS;cases gk with
 |succ kq=>
  have hkn:k<n:=by omega
  have dW:(k:Int)<n:=by omega
  have pk:(0:Int)<=(k:Int):=by omega
  have tk:((k:Int)).toNat=k:=by omega
  have tw:IntKind.i64.wrap ((k:Int)+1)=(k:Int)+1:=by unfold IntKind.wrap;simp[IntKind.signed,IntKind.bits];omega
  obtain⟨p,hp⟩: ∃p,ps[k]?=some p:=⟨_,aen (by rw[HL.out];exact hkn)⟩
  have hBw:=HB.out.2.mono aN.out;obtain⟨b,o,An,cn,At,ct,rfl,hlt,⟨p0,-⟩,-,-⟩:=(H.out.below hBw (bg.below hBw)).prop hp;obtain⟨z1,hz1⟩:=aj (⟨p.key.toArray⟩:ByteArray);unfold ST at p0;rw[hz1]at p0;have HP:=ah (show(ps.take (k+1)).map (fun p=>ST p.key)=(ps.take k).map (fun p=>ST p.key)++[.string z1] by rw[afS,hp,afg];simp[ST,hz1])
  have HK:=ah hk;have h5:k<1073741824:=by omega
  clear hk hp hz1 hlt hBw;go_wp2_with (at_builtin;refine jD rfl (.tmp 15) (.tmp 21) 34 9 (.string ⟨#[]⟩) 16 ar0 BF rfl (by decide) rfl w.heap.size (.slice A' k c') k ((ps.take k).map fun p=>ST p.key) wr rfl HB.out.1 (.string z1) rfl rfl h5 HB.out.2.size ?_)
  intro v9 w9 aF aO bI aB;obtain⟨A9,c9,rfl⟩:=aH aF;have HN:=ah (show QD w A9 c9 (k+1) ps w9 from⟨by rw[HP.out,aq5];exact aF,HB.out.2.trans aB⟩)
  clear aF aO bI aB;go_wp2
  go_roundg kq
  case measure=>omega
  exact⟨k+1,A9,c9,int_eq (by omega),rfl,by have:=HK.out;omega,HN.out⟩
 |zero=>
  obtain rfl:k=n:=by omega
  obtain⟨W1,hW1⟩:=aj (wr.alloc (.cells #[] 3));have hb1:Below wr.heap.size wr W1:=hW1▸(aoa _ wr).alloc (aej _) _;have hkeys:=HB.out.1;rw[aeG (by rw[HL.out];exact aej _)]at hkeys
  have agK:=HB.out.2.trans (hb1.mono HB.out.2.size);have hrt:=Reads.dZ (own_below hkeys hb1);rw[show ps.map (fun p=>ST p.key)=(ps.map Gr.P.key).map ST by rw[ahs];rfl]at hrt
  have ho:=QC W1.heap.size (some ⟨wr.heap.size,0,none⟩) A' 0 0 k c' [] (ps.map Gr.P.key) W1 rfl (by rw[aeP];exact HL.out) ⟨rfl,fun h=>by omega⟩ hrt (aej _) (.inl rfl) (by omega)
  rw[agO]at ho;refine gq3 ho agK hW1 fun HO HB1 HW1=>?_;clear hk hW1 hb1 hkeys agK hrt ho;go_wp2_with fail
  try rw[HW1.out]
  refine HO.mono ?_;rintro e w2 ⟨Ao,co,l,rfl,ho,hp,hs⟩;have hsort:=Ord.sorted FY HL.out HD.out hp hs (adO Gr.P.key ps);refine gq5 hsort (fun(j i:Nat) (h:l[j]?=some i)=>Ord.lt hp h) (HB1.trans (ho.bel.mono HB1.size)) ho.own ho.len fun fK aA HB2 HOW bY=>?_
  have rO:=(aoa w2.heap.size w2).alloc (aej _) (.cells #[] 143);have HS2:=ah (show Ee B w2 (some ⟨w2.heap.size,0,none⟩) 0 0 (Ord.at_ ps (l.take 0)) (w2.alloc (.cells #[] 143)) from⟨[],by simp[Ord.at_],by simp,by simpa using qB w2 143 6,rO⟩)
  clear ho hp hs hsort rO HO HB;go_wp2_with fail
  go_loopg [7,6] k (fun kx x y wr=> ∃(j:Nat) (A':Option Addr) (c':Nat),x=.int .i64 j/\y=.slice A' j c'/\j+kx=k/\Hid (Ee B w2 A' c' j (Ord.at_ ps (l.take j)) wr))
  case atStart=>exact⟨0,_,_,rfl,rfl,by omega,HS2.out⟩
  obtain⟨j,A3,c3,rfl,rfl,hj,hb⟩:=hrel;have HB:Hid (Ee B w2 A3 c3 j (Ord.at_ ps (l.take j)) wr):=hb;have iH:=ah HB.bel;clear hb HS2;cases gk with
  |succ kq=>
   have hjn:j<k:=by omega
   have BQ:(j:Int)<k:=by omega
   have pj:(0:Int)<=(j:Int):=by omega
   have tj:((j:Int)).toNat=j:=by omega
   have tw:IntKind.i64.wrap ((j:Int)+1)=(j:Int)+1:=by unfold IntKind.wrap;simp[IntKind.signed,IntKind.bits];omega
   obtain⟨i,hi⟩: ∃i,l[j]?=some i:=⟨_,aen (by rw[bY.out];exact hjn)⟩
   have hin:=aA.out j i hi;obtain⟨p,hp⟩: ∃p,ps[i]?=some p:=⟨_,aen (by rw[HL.out];exact hin)⟩
   obtain⟨lb,lo,v,rfl,hlb,hv,hc⟩:=((Reads.dZ HOW.out).below iH.out).cell hjn;rw[aeY,hi]at hv;cases hv;obtain⟨q,hq,hqp,hqo,JK⟩:=HB.out;have hBw:=(HB2.trans (JK.mono HB2.size)).mono aN.out;obtain⟨b,o,An,cn,At,ct,rfl,hlt,⟨p0,p1,p2,p3,p4,p5⟩,ra,rb⟩:=(H.out.below hBw (bg.below hBw)).prop hp;obtain⟨z1,hz1⟩:=aj (⟨p.key.toArray⟩:ByteArray);obtain⟨z2,hz2⟩:=aj (⟨p.val.text.toArray⟩:ByteArray);have e1:ST p.key=.string z1:=by unfold ST;rw[hz1]
   have e2:ST p.val.text=.string z2:=by unfold ST;rw[hz2]
   have hpc:bg wr B p [.string z1,.int .i64 p.val.kind,.int .i64 p.val.num,.string z2,.slice An p.val.nums.length cn,.slice At p.val.texts.length ct]:=⟨An,cn,At,ct,by rw[e1,e2],ra,rb⟩
   rw[e1]at p0;rw[e2]at p3;have ti:((i:Int)).toNat=i:=by omega
   have pi:(0:Int)<=(i:Int):=by omega
   have Nv:(i:Int)<k:=by omega
   unfold IN at hc;refine gq5 hpc (And.intro hq (And.intro hqp JK)) hqo (Ord.adN hi hp) hj fun y5 HQ HQO HAT HJ=>?_;have h5:j<536870912:=by omega
   have hBr:w2.heap.size<=wr.heap.size:=JK.size;clear hi hin hp hlb hq hqp hqo JK hBw hlt ra rb hz1 hz2 e1 e2 hpc hj;go_wp2_with (at_builtin;refine DJ rfl (.tmp 33) (.tmp 41) 35 143 (.agg #[.string ⟨#[]⟩,.int .i64 0,.int .i64 0,.string ⟨#[]⟩,.slice none 0 0,.slice none 0 0]) 6 96 asX Vs rfl (by decide) (by decide) rfl w2.heap.size (.slice A3 j c3) j (q.flatMap Prod.snd) wr rfl HQO.out [.string z1,.int .i64 p.val.kind,.int .i64 p.val.num,.string z2,.slice An p.val.nums.length cn,.slice At p.val.texts.length ct] _ rfl rfl (by simp[Value.oneCell']) rfl h5 hBr ?_)
   intro v9 w9 aF aO bI aB;obtain⟨A9,c9,rfl⟩:=aH aF;have hbp:Below B wr w9:=aB.mono (aep aN.out HB2.size)
   have HN:=ah (show Ee B w2 A9 c9 (j+1) (Ord.at_ ps (l.take (j+1))) w9 from by
    refine⟨q++[(p,_)],by rw[afg,HQ.out.1,HAT.out];rfl,fun x hx=> ?_,by rw[afR];simpa using aF,HQ.out.2.2.trans aB⟩
    rcases afq.1 hx with hx|hx
    ·exact bg.below hbp _ _ (HQ.out.2.1 x hx)
    rw[afm.1 hx];exact bg.below hbp _ _ y5.out)
   clear aF aO bI aB hbp p0 p1 p2 p3 p4 p5 hc y5 HQ HQO HAT HB;go_wp2
   go_roundg kq
   case measure=>omega
   exact⟨j+1,A9,c9,int_eq (by omega),rfl,by have:=HJ.out;omega,HN.out⟩
  |zero=>
   obtain rfl:j=k:=by omega
   have ho:=HB.out;rw[aeG (by rw[bY.out];exact aej _),fK.out]at ho
   have hlen:(Gr.kV ps).length=j:=(by unfold Gr.kV Gr.mY;rw[atB];exact HL.out)
   have hc:=amj wr.heap.size A3 c3 j (Gr.kV ps) wr (ho.lst hlen (aep aN.out (aep HB2.size iH.size))) hlen (fun p hp=>bF.out p ((ag8 ps _).mem_iff.1 hp)) (aej _) hn
   have HC:=ah hc;have HB3:=ah (HB2.trans (iH.mono HB2.size));clear ho hlen hc hj HB iH;go_wp2_with fail;refine HC.mono ?_;rintro e w9 ⟨v',rfl,hpo,aB⟩;have HF:=ah (show aT 143 w9 w.heap.size v' (Gr.kV ps)/\Below w.heap.size w w9 from⟨hpo.base HB3.size,HB3.trans (aB.mono HB3.size)⟩)
   clear hpo aB HC;go_wp2;go_ret;exact⟨_,rfl,HF.out⟩
def Kt.set {T:TypeId} {base b i:Nat} {w:World} {cs:Array Value} (h:ak w b T cs) (hb:base<=b) (u:Value):Kt T base w (w.setCell ⟨b,i,none⟩ u):=
 ⟨(aoa base w).grown (grownBy_set w ⟨b,i,none⟩ u) (anu (aqw hb h.lt)) (fun k hk=>by cases hk;exact hb),fun b' c t fz hc ht=>by
  rw[(grownBy_set w ⟨b,i,none⟩ u).block b' (afb.1 hc).1 ?_]
  ·exact hc
  intro e;cases e;unfold ak at h;rw[h]at hc;cases hc
  exact ht rfl⟩
def SY (g:Gr.G) (base k:Nat) (s:Value) (V:World):Prop:= ∃ln:List (Gr.N×List Value),ln.map Prod.fst=g.nodes.take k/\(∀x∈ln,iP V base x)/\V.ownsRow base 37 3 s k (ln.flatMap Prod.snd)
def S9 (g:Gr.G) (base k:Nat) (s:Value) (V:World):Prop:= ∃ln:List (Gr.R×List Value),ln.map Prod.fst=g.ay.take k/\(∀x∈ln,iQ V base x)/\V.ownsRow base 74 5 s k (ln.flatMap Prod.snd)
def SY.kt {g:Gr.G} {base k:Nat} {s:Value} {T:TypeId} {V V':World} (h:SY g base k s V) (hk:Kt T base V V') (h1:2≠T) (h2:9≠T) (h3:143≠T) (h4:37≠T):SY g base k s V':=by
 obtain⟨ln,a,b,c⟩:=h;exact⟨ln,a,fun x hx=>(b x hx).kt hk h1 h2 h3,oh c hk h4⟩
def S9.kt {g:Gr.G} {base k:Nat} {s:Value} {T:TypeId} {V V':World} (h:S9 g base k s V) (hk:Kt T base V V') (h1:2≠T) (h2:9≠T) (h3:143≠T) (h4:74≠T):S9 g base k s V':=by
 obtain⟨ln,a,b,c⟩:=h;exact⟨ln,a,fun x hx=>(b x hx).kt hk h1 h2 h3,oh c hk h4⟩
structure xQ (w:World) (b0 b1:Value) (g:Gr.G) (k m:Nat) (s r:Value) (V:World):Prop where
 box:ak V w.heap.size 26 #[b0,b1]
 res:ak V (w.heap.size+1) 26 #[.slice none 0 0,.slice none 0 0]
 out:ak V (w.heap.size+2) 26 #[s,r]
 nx:SY g w.heap.size k s V
 rx:S9 g w.heap.size m r V
 bel:Below w.heap.size w V
def xQ.below {w V V':World} {b0 b1 s r:Value} {g:Gr.G} {k m:Nat} (h:xQ w b0 b1 g k m s r V) (hb:Below V.heap.size V V'):xQ w b0 b1 g k m s r V':=
 have hk:Kt 0 w.heap.size V V':=Kt.of_below hb h.bel.size
 ⟨h.box.below hb h.box.lt,h.res.below hb h.res.lt,h.out.below hb h.out.lt,h.nx.kt hk (by decide) (by decide) (by decide) (by decide),h.rx.kt hk (by decide) (by decide) (by decide) (by decide),h.bel.trans (hb.mono h.bel.size)⟩
def xQ.node {w W:World} {b0 b1 s r:Value} {g:Gr.G} {k m:Nat} {p:Gr.N} {cs:List Value} (h:xQ w b0 b1 g k m s r W) (hp:g.nodes[k]?=some p) (hn:iP W w.heap.size (p,cs)):
  ∃xs,W.ownsRow w.heap.size 37 3 s k xs/\ ∀w9 v',W.grownBy w9 s.ownBlock->w9.ownsRow w.heap.size 37 3 v' (k+1) (xs++cs)->ak w9 (w.heap.size+2) 26 #[s,r]/\xQ w b0 b1 g (k+1) m v' r (w9.setCell ⟨w.heap.size+2,0,none⟩ v'):=by
 obtain⟨ln,h1,h2,h3⟩:=h.nx;refine⟨_,h3,fun w9 v' hg ho=> ?_⟩
 have k1:Kt 37 w.heap.size W w9:=Kt.row h3 hg h.bel.size;have hob:=k1.blk h.out (by decide)
 have k2:Kt 26 w.heap.size w9 (w9.setCell ⟨w.heap.size+2,0,none⟩ v'):=Kt.set hob (by omega) v'
 have ne1:some w.heap.size≠some (w.heap.size+2):=fun e=>by have:=aeM e;omega
 have Zj:some (w.heap.size+1)≠some (w.heap.size+2):=fun e=>by have:=aeM e;omega
 refine⟨hob,(k1.blk h.box (by decide)).grown (grownBy_set _ _ _) ne1,(k1.blk h.res (by decide)).grown (grownBy_set _ _ _) Zj,by simpa using hob.aG 0 v',⟨ln++[(p,cs)], ?_,fun x hx=> ?_, ?_⟩,(h.rx.kt k1 (by decide) (by decide) (by decide) (by decide)).kt k2 (by decide) (by decide) (by decide) (by decide),h.bel.trans (k1.bel.trans k2.bel)⟩
 ·rw[afg,h1,afS,hp];rfl
 ·rcases afq.1 hx with hx|hx
  ·exact((h2 x hx).kp (k1.kp (.inl rfl))).kt k2 (by decide) (by decide) (by decide)
  rw[afm.1 hx];exact(hn.kp (k1.kp (.inl rfl))).kt k2 (by decide) (by decide) (by decide)
 rw[afR]
 simpa using oh ho k2 (by decide)
def xQ.rel {w W:World} {b0 b1 s r:Value} {g:Gr.G} {k m:Nat} {p:Gr.R} {cs:List Value} (h:xQ w b0 b1 g k m s r W) (hp:g.ay[m]?=some p) (hn:iQ W w.heap.size (p,cs)):
  ∃xs,W.ownsRow w.heap.size 74 5 r m xs/\ ∀w9 v',W.grownBy w9 r.ownBlock->w9.ownsRow w.heap.size 74 5 v' (m+1) (xs++cs)->ak w9 (w.heap.size+2) 26 #[s,r]/\xQ w b0 b1 g k (m+1) s v' (w9.setCell ⟨w.heap.size+2,1,none⟩ v'):=by
 obtain⟨ln,h1,h2,h3⟩:=h.rx;refine⟨_,h3,fun w9 v' hg ho=> ?_⟩
 have k1:Kt 74 w.heap.size W w9:=Kt.row h3 hg h.bel.size;have hob:=k1.blk h.out (by decide)
 have k2:Kt 26 w.heap.size w9 (w9.setCell ⟨w.heap.size+2,1,none⟩ v'):=Kt.set hob (by omega) v'
 have ne1:some w.heap.size≠some (w.heap.size+2):=fun e=>by have:=aeM e;omega
 have Zj:some (w.heap.size+1)≠some (w.heap.size+2):=fun e=>by have:=aeM e;omega
 refine⟨hob,(k1.blk h.box (by decide)).grown (grownBy_set _ _ _) ne1,(k1.blk h.res (by decide)).grown (grownBy_set _ _ _) Zj,by simpa using hob.aG 1 v',(h.nx.kt k1 (by decide) (by decide) (by decide) (by decide)).kt k2 (by decide) (by decide) (by decide) (by decide),⟨ln++[(p,cs)], ?_,fun x hx=> ?_, ?_⟩,h.bel.trans (k1.bel.trans k2.bel)⟩
 ·rw[afg,h1,afS,hp];rfl
 ·rcases afq.1 hx with hx|hx
  ·exact((h2 x hx).kp (k1.kp (.inr rfl))).kt k2 (by decide) (by decide) (by decide)
  rw[afm.1 hx];exact(hn.kp (k1.kp (.inr rfl))).kt k2 (by decide) (by decide) (by decide)
 rw[afR]
 simpa using oh ho k2 (by decide)
structure Small (g:Gr.G):Prop where
 n:g.nodes.length<=67108864
 r:g.ay.length<=67108864
 l: ∀n∈g.nodes,n.labels.length<=67108864
 np: ∀n∈g.nodes,n.props.length<=67108864
 rp: ∀r∈g.ay,r.props.length<=67108864
end Go.Proofs.YtdijgcnlbfgkdaaGreatDoor
