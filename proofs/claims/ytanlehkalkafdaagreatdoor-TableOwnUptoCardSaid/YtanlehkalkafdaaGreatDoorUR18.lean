/- Contracts and plain laws,part 18. -/
import Derived.Test.YtanlehkalkafdaaGreatDoorUR17
import Derived.Sort.LotA
import Derived.Shelf.SlGeneric
set_option maxHeartbeats 64000000
set_option maxRecDepth 1000000
set_option linter.all false
namespace Go.Proofs.YtanlehkalkafdaaGreatDoor
open Go.RowKit
theorem lM: ∀(l:List (List UInt8)) {a:List UInt8},a∈l->a.length<=(l.map List.length).sum
 |[],_,h=>by cases h
 |x :: r,a,h=>by
  rw[tV,vO]
  rcases uD.1 h with rfl|h
  ·omega
  have:=lM r h;omega
def LabRes (R:List (List UInt8)×Nat) (w:World) (e:Ending) (w':World):Prop:=
 ∃v,e=.returned (.tuple #[v,.int .i64 (R.2:Nat)])/\w'.ownsRow w.heap.size 9 1 v R.1.length (R.1.map ST)/\Below w.heap.size w w'
theorem oJ (s:ByteArray) (w:World) (hs:s.size<=1073741823) (hL:Laid w):
  Calls Tryz.prog 68 #[.string s] w (LabRes (Tb.labelsP s.data.toList) w):=by
 obtain⟨R,hR⟩:=aj (Tb.labelsP s.data.toList);rw[hR];unfold Tb.labelsP at hR
 by_cases h0:s.data.toList=[]
 ·rw[rY h0]at hR
  subst hR;obtain rfl:s=⟨#[]⟩:=by rw[<-BA_data s,h0];rfl
  clear h0 hs hL;go_enter Tryz.func68,Tryz.ntmps68;go_wp2
  go_ret2
  exact⟨_,rfl,World.ownsRow_nil _ _ _ _,Below.refl _ _⟩
 rw[rU h0]at hR
 have t0:s.toList.isEmpty=false:=by
  rw[Lib.toList_data];cases hc:s.data.toList with
  |nil=>exact absurd hc h0
  |cons a r=>rfl
 have hsum:=Tb.split_sum s.data.toList;have hsp:=split_any s w (by omega) hL
 have hss:s.data.toList.length=s.size:=(Lib.size_eq s).symm
 obtain⟨ps,hps⟩:=aj (Tb.splitS s.data.toList);rw[hps]at hR hsp hsum
 have hsz: ∀p∈ps,p.length<=1073741824:=fun p hp=>by have:=lM ps hp;omega
 obtain⟨n,hn⟩:=aj ps.length;rw[hn]at hsp hsum;have hnb:n<=1073741824:=by omega
 obtain⟨E,hE⟩:=aj (Tb.namesWrong [] ps);rw[hE]at hR
 obtain⟨W1,hW1⟩:=aj (w.alloc (.cells (ps.map ST).toArray 9))
 have hb1:Below w.heap.size w W1:=hW1▸(Below.refl _ w).alloc (rM _) _
 have hz1:W1.heap.size=w.heap.size+1:=by rw[<-hW1];simp
 rw[hW1]at hsp;have hk1:Blk W1 w.heap.size 9 (ps.map ST).toArray:=hW1▸Blk.new _ _ _
 have HSP:=ah hsp;have HR:=ah hR;have HSZ:=ah hsz;have HN:=ah hn;have HE:=ah hE
 have HB1:=ah hb1;have HK1:=ah hk1;have HZ1:=ah hz1
 clear h0 hsum hsp hss hps hR hsz hn hE hW1 hb1 hk1 hz1 hL hs
 go_enter Tryz.func68,Tryz.ntmps68;go_wp2_with fail;refine HSP.mono ?_
 rintro e w1 ⟨rfl,rfl⟩;clear HSP;go_wp2_with fail
 go_loopg [2,11] n (fun q x y wr=> ∃k:Nat,∃A c,x=.slice A k c/\y=.int .i64 k/\k+q=n/\Below W1.heap.size W1 wr/\wr.ownsRow W1.heap.size 9 1 (.slice A k c) k ((ps.take k).map ST)/\Hid (Tb.namesWrong (ps.take k) (ps.drop k)=E))
 case atStart=>exact⟨0,none,0,rfl,rfl,by omega,Below.refl _ _,World.ownsRow_nil _ _ _ _,HE.out⟩
 obtain⟨k,A,c,rfl,rfl,hk,hb,ho,he⟩:=hrel;have HB:=ah hb;have HO:=ah ho;have HK:=ah hk
 clear hb ho HE;cases gk with
 |zero=>
  obtain rfl:k=n:=by omega
  have h0:E=0:=by
   have h:=he.out;rw[uq (by rw[HN.out];exact rM _)]at h
   rw[<-h];rfl
  have hr:R=(ps,0):=by rw[<-HR.out,rY h0]
  subst hr
  have HF:=ah (show wr.ownsRow w.heap.size 9 1 (.slice A k c) ps.length (ps.map ST) by
   have h:=HO.out;rw[sG (by rw[HN.out];exact rM _)]at h
   rw[HN.out]
   exact own_base h (by have:=HZ1.out;omega))
  clear he h0 hk;go_wp2
  go_ret2
  exact⟨_,rfl,HF.out,HB1.trans (HB.mono HB1.size)⟩
 |succ q=>
  have hkn:k<n:=by omega
  have hknI:(k:Int)<n:=by omega
  obtain⟨p,hp⟩: ∃p,ps[k]?=some p:=⟨_,ay (by rw[HN.out];exact hkn)⟩
  have hdr:ps.drop k=p :: ps.drop (k+1):=by
   rw[tJ (by rw[HN.out];exact hkn)]
   congr 1
   exact tN ((ay _).symm.trans hp)
  have htk:ps.take (k+1)=ps.take k++[p]:=by rw[uM,hp];rfl
  have hpl:=HSZ.out p (sK hp)
  have hcell:wr.cell? ⟨w.heap.size,k,none⟩=some (ST p):=(HB.cell (p:=⟨w.heap.size,k,none⟩) HK1.lt).trans (by
   have:=HK1.cell k;rw[this]
   simp[hp])
  obtain⟨z,hz⟩:=aj (⟨p.toArray⟩:ByteArray);have hst:ST p=.string z:=by rw[<-hz];rfl
  have hzd:z.data.toList=p:=by rw[<-hz]
  have hzs:z.size<=1073741824:=by rw[Lib.size_eq,hzd];exact hpl
  rw[hst]at hcell;have hw:=he.out;rw[hdr,Tb.namesWrong]at hw
  obtain⟨g,hg⟩:=aj (Gr.goodName p);have hgn:=goodName_any z wr hzs;rw[hzd,hg]at hgn
  rw[hg]at hw;have hcn:=oG z wr HO.out (by omega)
  rw[hzd]at hcn;obtain⟨d,hd⟩:=aj (decide (p∈ps.take k):Bool);rw[hd]at hcn
  have HGN:=ah hgn;have HCN:=ah hcn;have HW:=ah hw;have HD:=ah hd;have HTK:=ah htk
  have HST:=ah hst;clear hp hdr htk hpl hz hst hzd hw hg hgn hcn hd he hk;go_wp2_with fail
  refine HGN.mono ?_;rintro e w2 ⟨rfl,rfl⟩;clear HGN;cases g with
  |false=>
   have hr:R=([],60):=by rw[<-HR.out,<-HW.out,rY rfl,rU (by decide)]
   subst hr;go_wp2
   go_ret2
   exact⟨_,rfl,World.ownsRow_nil _ _ _ _,HB1.trans (HB.mono HB1.size)⟩
  |true=>
  go_wp2_with fail;refine HCN.mono ?_;rintro e w2 ⟨rfl,rfl⟩;clear HCN;cases d with
  |true=>
   have hE:E=7:=by rw[<-HW.out,rU (by decide),rY (sQ HD.out)]
   have hr:R=([],7):=by rw[<-HR.out,hE,rU (by decide)]
   subst hr;go_wp2
   go_ret2
   exact⟨_,rfl,World.ownsRow_nil _ _ _ _,HB1.trans (HB.mono HB1.size)⟩
  |false=>
  have hw2:=HW.out;rw[rU (by decide),rU (sO HD.out)]at hw2
  have HW2:=ah hw2;have hkb:k<1073741824:=by omega
  have hsz:=HB.size;clear hw2 HW HD
  go_wp2_with (at_builtin;refine wpList_append_one rfl (.tmp 21) (.tmp 23) 45 9 (.string ⟨#[]⟩) 16 Tryz.underlying45 info_string rfl (by decide) rfl W1.heap.size (.slice A k c) k ((ps.take k).map ST) wr rfl HO.out (.string z) rfl rfl hkb hsz ?_)
  intro v9 w9 hown9 hgr9 hwh9 hb9;obtain⟨A9,c9,rfl⟩:=own_form hown9
  have HO9:=ah (show w9.ownsRow W1.heap.size 9 1 (.slice A9 (k+1) c9) (k+1) ((ps.take (k+1)).map ST) by rw[HTK.out,uf,tV,uT,HST.out];first|exact hown9|(rw[<-CU]at hown9;exact hown9))
  have HB9:=ah (HB.trans hb9);clear hown9 hgr9 hwh9 hb9 hcell;go_wp2
  go_roundg q
  case measure=>omega
  exact⟨k+1,A9,c9,rfl,int_eq (by omega),by have:=HK.out;omega,HB9.out,HO9.out,by rw[HTK.out];exact HW2.out⟩
def Tb.propsGo (acc:List Gr.P) (ks fs:List (List UInt8)):List Gr.P×Nat:=if(Tb.propsP ks fs).2≠0 then([],(Tb.propsP ks fs).2) else(acc ++(Tb.propsP ks fs).1,0)
theorem Tb.propsP_err: ∀(ks fs:List (List UInt8)),(Tb.propsP ks fs).2≠0->(Tb.propsP ks fs).1=[]
 |[],_,_=>rfl
 |k :: ks,[],_=>rfl
 |k :: ks,f :: fs,h=>by
  rw[Tb.propsP]at h⊢
  split
  ·rename_i h1;rw[rY h1]at h;exact Tb.propsP_err ks fs h
  rename_i h1;rw[rU h1]at h
  split
  ·rfl
  rename_i h2;rw[rU h2]at h
  split
  ·rfl
  rename_i h3;rw[rU h3]at h;exact absurd rfl h
theorem Tb.propsGo_nil (ks fs:List (List UInt8)):Tb.propsGo [] ks fs=Tb.propsP ks fs:=by
 unfold Tb.propsGo
 split
 ·rename_i h;exact xW (Tb.propsP_err ks fs h).symm rfl
 rename_i h;have h0:(Tb.propsP ks fs).2=0:=Classical.not_not.1 h;exact xW rfl h0.symm
theorem Tb.propsGo_end (acc:List Gr.P) (fs:List (List UInt8)):Tb.propsGo acc [] fs=(acc,0):=by
 unfold Tb.propsGo;rw[show Tb.propsP [] fs=([],0) from rfl,rU (by simp),tC]
theorem Tb.propsGo_skip {acc:List Gr.P} {k:List UInt8} {ks fs:List (List UInt8)}:Tb.propsGo acc (k :: ks) ([] :: fs)=Tb.propsGo acc ks fs:=by
 unfold Tb.propsGo
 rw[show Tb.propsP (k :: ks) ([] :: fs)=Tb.propsP ks fs by rw[Tb.propsP,rY rfl]]
theorem Tb.propsGo_bad {acc:List Gr.P} {k f:List UInt8} {ks fs:List (List UInt8)} (hf:f≠ []) (h:(Cel.parse f).2≠0):Tb.propsGo acc (k :: ks) (f :: fs)=([],(Cel.parse f).2):=by
 unfold Tb.propsGo
 rw[show Tb.propsP (k :: ks) (f :: fs)=([],(Cel.parse f).2) by rw[Tb.propsP,rU hf,rY h],rY h]
theorem Tb.propsGo_put {acc:List Gr.P} {k f:List UInt8} {ks fs:List (List UInt8)} {v:Cel.V} (hf:f≠ []) (h:Cel.parse f=(v,0)):Tb.propsGo acc (k :: ks) (f :: fs)=Tb.propsGo (acc++[⟨k,v⟩]) ks fs:=by
 unfold Tb.propsGo;by_cases h2:(Tb.propsP ks fs).2≠0
 ·rw[show Tb.propsP (k :: ks) (f :: fs)=([],(Tb.propsP ks fs).2) by rw[Tb.propsP,rU hf,h,rU (by simp),rY h2],rY h2,rY h2]
 rw[show Tb.propsP (k :: ks) (f :: fs)=(⟨k,v⟩ ::(Tb.propsP ks fs).1,0) by rw[Tb.propsP,rU hf,h,rU (by simp),rU h2],rU (by simp),rU h2]
 simp
def PrpRes (R:List Gr.P×Nat) (w:World) (e:Ending) (w':World):Prop:=
 ∃v,e=.returned (.tuple #[v,.int .i64 (R.2:Nat)])/\PropsOwn 53 w' w.heap.size v R.1/\Below w.heap.size w w'
theorem dQ {α:Type} {l:List α} {k:Nat} {a:α} (h:l[k]?=some a):l.drop k=a :: l.drop (k+1):=by
 obtain⟨hl,he⟩:=rZ.1 h;rw[tJ hl,he]
theorem tprops_any (B:Nat) (Ak Af:Option Addr) (ck cf n:Nat) (keys fields:List (List UInt8)) (w:World) (hk:Reads w B 1 Ak n (keys.map ST)) (hf:Reads w B 1 Af n (fields.map ST)) (hn:n<=16777217)
  (hfs: ∀f∈fields,f.length<=16777216) (hB:B<=w.heap.size) (hL:Laid w):
  Calls Tryz.prog 69 #[.slice Ak n ck,.slice Af n cf] w (PrpRes (Tb.propsP keys fields) w):=by
 obtain⟨R,hR⟩:=aj (Tb.propsP keys fields);rw[hR];rw[<-Tb.propsGo_nil]at hR
 have hkl:=reads_len hk;have hfl:=reads_len hf;have HKR:=ah hk;have HFR:=ah hf
 have HKL:=ah hkl;have HFL:=ah hfl;have HFS:=ah hfs;have HBw:=ah hB;have HL:=ah hL
 have HR:=ah hR;clear hk hf hkl hfl hfs hB hL hR;go_enter Tryz.func69,Tryz.ntmps69
 go_wp2_with fail
 go_loopg [4,12] n (fun q x y wr=> ∃k:Nat,∃acc A c,x=.slice A acc.length c/\y=.int .i64 k/\k+q=n/\acc.length<=k/\Below w.heap.size w wr/\PropsOwn 53 wr w.heap.size (.slice A acc.length c) acc/\Hid (Tb.propsGo acc (keys.drop k) (fields.drop k)=R))
 case atStart=>exact⟨0,[],none,0,rfl,rfl,by omega,rM _,Below.refl _ _,PropsOwn.nil _ _ _,HR.out⟩
 obtain⟨k,acc,A,c,rfl,rfl,hk,hal,hb,hp,he⟩:=hrel;have HB:=ah hb;have HP:=ah hp
 have HK:=ah hk;clear hb hp HR;cases gk with
 |zero=>
  obtain rfl:k=n:=by omega
  have hr:R=(acc,0):=by
   have h:=he.out;rw[uq (by rw[HKL.out];exact rM _),Tb.propsGo_end]at h
   exact h.symm
  subst hr;clear he hk hal;go_wp2
  go_ret2
  exact⟨_,rfl,HP.out,HB.out⟩
 |succ q=>
  have hkn:k<n:=by omega
  have hknI:(k:Int)<n:=by omega
  obtain⟨key,hky⟩: ∃p,keys[k]?=some p:=⟨_,ay (by rw[HKL.out];exact hkn)⟩
  obtain⟨f,hf⟩: ∃p,fields[k]?=some p:=⟨_,ay (by rw[HFL.out];exact hkn)⟩
  obtain⟨b1,o1,rfl,hb1⟩:=HKR.blk (by omega)
  obtain⟨b2,o2,rfl,hb2⟩:=HFR.blk (by omega)
  have ck1:=(HB.cell (p:=⟨b1,o1+k,none⟩) (sZ hb1 HBw.out)).trans (HKR.st hky)
  have cf1:=(HB.cell (p:=⟨b2,o2+k,none⟩) (sZ hb2 HBw.out)).trans (HFR.st hf)
  obtain⟨zk,hzk⟩:=aj (⟨key.toArray⟩:ByteArray);obtain⟨z,hz⟩:=aj (⟨f.toArray⟩:ByteArray)
  have e1:ST key=.string zk:=by rw[<-hzk];rfl
  have e2:ST f=.string z:=by rw[<-hz];rfl
  have hzd:z.data.toList=f:=by rw[<-hz]
  rw[e1]at ck1;rw[e2]at cf1;have hg:=he.out;rw[dQ hky,dQ hf]at hg
  have hfl:=HFS.out f (sK hf);have HE1:=ah e1;have HG:=ah hg;have hb1':=sZ hb1 HBw.out
  clear he hg hky hf hzk e1 e2 hk hb1 hb2;by_cases hf0:f=[]
  ·subst hf0
   have hz0:z=⟨#[]⟩:=hz.symm;subst hz0;have HG2:=ah (Tb.propsGo_skip.symm.trans HG.out)
   clear HG hz hzd hfl;go_wp2
   go_roundg q
   case measure=>omega
   exact⟨k+1,acc,A,c,rfl,int_eq (by omega),by have:=HK.out;omega,by omega,HB.out,HP.out,HG2.out⟩
  have t0:z.toList.isEmpty=false:=by
   rw[Lib.toList_data,hzd];cases hc:f with
   |nil=>exact absurd hc hf0
   |cons a r=>rfl
  have hpc:=celParse_any z wr (by rw[Lib.size_eq,hzd];omega) (HL.below HB.out)
  rw[hzd]at hpc;obtain⟨Q,hQ⟩:=aj (Cel.parse f);obtain⟨v,ec⟩:=Q;rw[hQ]at hpc
  have HPC:=ah hpc;have HQ:=ah hQ;have HF0:=ah hf0;clear hpc hQ hz hzd hfl hf0
  go_wp2_with fail;refine HPC.mono ?_;rintro e w6 ⟨u,rfl,hv6,hb6⟩
  obtain⟨s,t,rfl,hn6,ht6⟩:=hv6.ex;obtain⟨A1,c1,rfl⟩:=own_form hn6
  obtain⟨A2,c2,rfl⟩:=own_form ht6;have HB6:=ah (HB.trans (hb6.mono HB.size))
  have hsz6:=HB.size
  obtain⟨W7,hW7⟩:=aj (w6.alloc (.cells #[.int .i64 v.kind,.int .i64 v.num,.string ⟨v.text.toArray⟩,.slice A1 v.nums.length c1,.slice A2 v.texts.length c2] 51))
  have hb7:Below w6.heap.size w6 W7:=hW7▸(Below.refl _ w6).alloc (rM _) _
  obtain⟨nd,hnd⟩:=aj w6.heap.size
  have hk7:Blk W7 nd 51 #[.int .i64 v.kind,.int .i64 v.num,.string ⟨v.text.toArray⟩,.slice A1 v.nums.length c1,.slice A2 v.texts.length c2]:=by rw[<-hW7,<-hnd];exact Blk.new _ _ _
  have hbd:Below wr.heap.size wr (W7.drewN 1):=below_drewN (hb6.trans (hb7.mono hb6.size)) 1
  have HB7:=ah (HB.trans (hbd.mono HB.size))
  have kept6: ∀{T:TypeId} {B0 sz m:Nat} {x:Value} {xs:List Value},w6.ownsRow B0 T sz x m xs->(W7.drewN 1).ownsRow B0 T sz x m xs:=fun h=>own_kept_ty h (only_of_below (below_drewN hb7 1) none) (fun g c t fz hr=>by cases hr)
  have HPO:=ah (show PairOwn (W7.drewN 1) w.heap.size (⟨key,v⟩,[ST key,.int .i64 v.kind,.int .i64 v.num,ST v.text,.slice A1 v.nums.length c1,.slice A2 v.texts.length c2]) from⟨_,_,rfl,own_base (kept6 hn6) hsz6,own_base (kept6 ht6) hsz6⟩)
  have ck7:=(hbd.cell (p:=⟨b1,o1+k,none⟩) (sZ hb1' hsz6)).trans ck1
  have HC7:=ah (show W7.cell? ⟨b1,o1+k,none⟩=some (.string zk) from ck7)
  have HK7:=ah hk7;obtain⟨l,h1,h2,h3⟩:=HP.out;obtain⟨al,hal2⟩:=aj acc.length
  have hp7:(∀x∈l,PairOwn (W7.drewN 1) w.heap.size x)/\(W7.drewN 1).ownsRow w.heap.size 53 6 (.slice A acc.length c) acc.length (l.flatMap Prod.snd):=
   ⟨fun x hx=>(h2 x hx).row (only_of_below hbd none) (fun g c t fz hr=>by cases hr),own_kept_ty h3 (only_of_below hbd none) (fun g c t fz hr=>by cases hr)⟩
  have H1:=ah h1;have H2:=ah hp7.1;have h3':=hp7.2;rw[hal2]at h3' hal⊢;have H3:=ah h3'
  have HAL:=ah hal2;have halb:al<536870912:=by omega
  have hszW:w.heap.size<=(W7.drewN 1).heap.size:=HB7.size;have HW7:=ah hW7;have HND:=ah hnd
  clear hv6 hb6 hn6 ht6 hW7 hb7 hk7 hbd kept6 ck7 h1 h2 h3 hp7 h3' hal2 ck1 cf1 hnd HP HPC
  go_upto_region 6 with fail
  rw[HW7.out,HND.out];clear HW7 HND;obtain⟨d0,d1,d2,d3,d4⟩:=cells5 HK7.out
  by_cases hec:ec=0
  case neg=>
   have t1:((ec:Int) !=0)=true:=by rw[tH];omega
   have hr:R=([],ec):=by
    rw[<-HG.out,Tb.propsGo_bad HF0.out (by rw[HQ.out];exact hec),HQ.out]
   subst hr;clear hec;go_wp2
   go_ret2
   exact⟨_,rfl,PropsOwn.nil _ _ _,⟨HB7.os,HB7.tape,HB7.out.output,HB7.size,HB7.block⟩⟩
  subst hec;have HG2:=ah ((Tb.propsGo_put HF0.out HQ.out).symm.trans HG.out)
  obtain⟨zt,hzt⟩:=aj (⟨v.text.toArray⟩:ByteArray)
  have hst:ST v.text=.string zt:=by rw[<-hzt];rfl
  have HSTT:=ah hst;rw[hzt]at d2;have ckk:=HC7.out;clear hzt hst HG;go_wp2_with fail
  go_region_law (first|(refine step_append_struct rfl (.tmp 27) (.tmp 34) 46 53 (.agg #[.string ⟨#[]⟩,.int .i64 0,.int .i64 0,.string ⟨#[]⟩,.slice none 0 0,.slice none 0 0]) 6 96 Tryz.underlying46 info_prop rfl (by decide) (by decide) rfl w.heap.size (.slice A al c) al (l.flatMap Prod.snd) (W7.drewN 1) rfl H3.out [.string zk,.int .i64 v.kind,.int .i64 v.num,.string zt,.slice A1 v.nums.length c1,.slice A2 v.texts.length c2] _ rfl rfl (by simp[Value.oneCell']) rfl halb hszW ?_;intro v9 w9 hown9 hgr9 hwh9 hb9;obtain⟨A9,c9,rfl⟩:=own_form hown9)|fail)
  all_goals
   have hpo:=HPO.out;rw[HE1.out,HSTT.out]at hpo
   have HP9:=ah (PropsOwn.put (T:=53) (v:=.slice A acc.length c) (v':=.slice A9 (al+1) c9) (ps:=acc) ⟨by decide,by decide⟩ H1.out H2.out hpo (by rw[HAL.out];exact H3.out) (by rw[HAL.out];exact hgr9) (by rw[HAL.out];exact hown9))
   have HB9:=ah (HB7.trans hb9)
   have hlen9:(acc++[(⟨key,v⟩:Gr.P)]).length=al+1:=by rw[rP,HAL.out];rfl
   have HLEN:=ah hlen9;clear hpo hown9 hgr9 hwh9 hb9 hlen9 d0 d1 d2 d3 d4 ckk;go_wp2
   go_roundg q
   case measure=>omega
   exact⟨k+1,acc++[⟨key,v⟩],A9,c9,by rw[HLEN.out],int_eq (by omega),by have:=HK.out;omega,by rw[HLEN.out];omega,HB9.out,by rw[HLEN.out];exact HP9.out,HG2⟩
end Go.Proofs.YtanlehkalkafdaaGreatDoor
namespace Go.Proofs.YtanlehkalkafdaaGreatDoor.Stb
open Go
variable {α:Type} {le:α->α->Bool}
structure Tot (le:α->α->Bool):Prop where
 trans: ∀{a b c},le a b=true->le b c=true->le a c=true
 total: ∀{a b},le a b=false->le b a=true
abbrev Srt (le:α->α->Bool) (l:List α):Prop:=l.Pairwise (fun a b=>le a b=true)
theorem le_of_last {A:List α} (_hT:Tot le) (h:Srt le A) {i:Nat} {x:α} (hx:A[i]?=some x) {z:α} (hz:z∈A.take (i+1)):z=x\/le z x=true:=by
 obtain⟨j,hj,rfl⟩:=uV hz;rw[yY];rw[tK]at hj;obtain⟨hi,hx⟩:=rZ.1 hx
 rcases wW j i with hlt|hge
 ·right
  rw[<-hx];exact wO.1 h j i (by omega) hi hlt
 left
 have:j=i:=by omega
 subst this;exact hx
theorem le_of_first {A:List α} (_hT:Tot le) (h:Srt le A) {i:Nat} {x:α} (hx:A[i]?=some x) {z:α} (hz:z∈A.drop i):z=x\/le x z=true:=by
 obtain⟨j,hj,rfl⟩:=uV hz;rw[List.getElem_drop];rw[uJ]at hj;obtain⟨hi,hx⟩:=rZ.1 hx
 rcases uY j with rfl|hp
 ·left;simpa using hx
 right
 rw[<-hx];exact wO.1 h i (i+j) hi (by omega) (by omega)
theorem le_refl (hT:Tot le) (a:α):le a a=true:=by
 cases h:le a a with
 |true=>rfl
 |false=>have h':=hT.total h;rw[h]at h';exact h'
theorem le_or {a b:α} (hT:Tot le) (h:a=b\/le a b=true):le a b=true:=h.elim (fun e=>e▸le_refl hT _) id
theorem srt_cut {A:List α} (h:Srt le A) (i:Nat): ∀x∈A.take i,∀y∈A.drop i,le x y=true:=by
 have h':=h;rw[<-uz i A,Srt,wH]at h';exact h'.2.2
theorem ins_at {B:List α} {e:α} (hT:Tot le) (hB:Srt le B) {i:Nat} (h1:i=0\/ ∃x,B[i - 1]?=some x/\le x e=true) (h2:i=B.length\/ ∃y,B[i]?=some y/\le e y=true):Srt le (B.take i++e :: B.drop i):=by
 have hc:=srt_cut hB i;have hs:=hB;rw[<-uz i B,Srt,wH]at hs;obtain⟨ha,hb,-⟩:=hs
 rw[Srt,wH];refine⟨ha,List.pairwise_cons.2 ⟨fun x hx=> ?_,hb⟩,fun x hx y hy=> ?_⟩
 ·rcases h2 with rfl|⟨y,hy,hey⟩
  ·simp at hx
  exact hT.trans hey (le_or hT ((le_of_first hT hB hy hx).imp Eq.symm id))
 rcases uD.1 hy with rfl|hy
 ·rcases h1 with rfl|⟨z,hz,hze⟩
  ·simp at hx
  rcases uY i with rfl|hp
  ·simp at hx
  refine hT.trans (le_or hT (le_of_last hT hB hz (z:=x) ?_)) hze
  rwa [BL hp]
 exact hc x hx y hy
theorem perm_ins {B:List α} {e:α} (i:Nat):(B.take i++e :: B.drop i).Perm (e :: B):=by
 have:=List.perm_middle (a:=e) (l₁:=B.take i) (l₂:=B.drop i)
 rwa [uz]at this
theorem merge_split {A B S1 S2:List α} (hT:Tot le) (hA:Srt le A) (hB:Srt le B) {i j:Nat}
  (h1:i=0\/j=B.length\/ ∃x y,A[i - 1]?=some x/\B[j]?=some y/\le x y=true)
  (h2:i=A.length\/j=0\/ ∃x y,B[j - 1]?=some x/\A[i]?=some y/\le x y=true)
  (p1:S1.Perm (A.take i++B.take j)) (s1:Srt le S1) (p2:S2.Perm (A.drop i++B.drop j)) (s2:Srt le S2):Srt le (S1++S2)/\(S1++S2).Perm (A++B):=by
 constructor
 ·rw[Srt,wH]
  refine⟨s1,s2,fun x hx y hy=> ?_⟩
  have hx:=p1.mem_iff.1 hx;have hy:=p2.mem_iff.1 hy
  rcases tZ.1 hx with hx|hx
  ·rcases tZ.1 hy with hy|hy
   ·exact srt_cut hA i x hx y hy
   rcases h1 with rfl|rfl|⟨u,v,hu,hv,huv⟩
   ·simp at hx
   ·simp at hy
   rcases uY i with rfl|hp
   ·simp at hx
   refine hT.trans (le_or hT (le_of_last hT hA hu (z:=x) ?_)) (hT.trans huv (le_or hT ((le_of_first hT hB hv hy).imp Eq.symm id)))
   rwa [BL hp]
  rcases tZ.1 hy with hy|hy
  ·rcases h2 with rfl|rfl|⟨u,v,hu,hv,huv⟩
   ·simp at hy
   ·simp at hx
   rcases uY j with rfl|hp
   ·simp at hx
   refine hT.trans (le_or hT (le_of_last hT hB hu (z:=x) ?_)) (hT.trans huv (le_or hT ((le_of_first hT hA hv hy).imp Eq.symm id)))
   rwa [BL hp]
  exact srt_cut hB j x hx y hy
 refine(p1.append p2).trans ?_
 have e1:A++B=(A.take i++A.drop i) ++(B.take j++B.drop j):=by rw[uz,uz]
 rw[e1,sV,sV];refine List.Perm.append_left _ ?_;rw[<-sV,<-sV]
 exact List.Perm.append_right _ List.perm_append_comm
end Go.Proofs.YtanlehkalkafdaaGreatDoor.Stb
namespace Go.Proofs.YtanlehkalkafdaaGreatDoor.Stb
open Go Go.Sort
variable {α:Type} [Inhabited α] {le:α->α->Bool}
theorem get_at {d:Array α} {p s:List α} {x:α} (h:d.toList=p++x :: s) {i:Nat} (hi:p.length=i):d[i]! =x/\i<d.size:=by
 have hl:=uo List.length h;simp only[vH,rP,sS]at hl;have hlt:i<d.size:=by omega
 refine⟨?_,hlt⟩;rw[xJ d i hlt,<-zA]
 have:d.toList[i]?=some x:=by rw[h,uI (by omega),hi,zG];rfl
 rw[ay (by simpa using hlt)]at this
 exact tN this
theorem get_list {d:Array α} {l:List α} (h:d.toList=l) {i:Nat} {x:α} (hx:l[i]?=some x):d[i]! =x/\i<d.size:=by
 obtain⟨hi,hx⟩:=rZ.1 hx;have hlt:i<d.size:=by rw[<-h]at hi;simpa using hi
 refine⟨?_,hlt⟩;rw[xJ d i hlt,<-zA,<-hx]
 congr 1
theorem swp_list {d:Array α} {p q s:List α} {x y:α} (h:d.toList=p++x ::(q++y :: s)) {i j:Nat} (hi:p.length=i) (hj:p.length+1+q.length=j):
  (swp d i j).toList=p++y ::(q++x :: s)/\(swp d j i).toList=p++y ::(q++x :: s):=by
 have h1:=(get_at h hi).1
 have h2:=(get_at (d:=d) (p:=p++x :: q) (s:=s) (x:=y) (by rw[h];simp) (i:=j) (by simp only[rP,sS];omega)).1
 unfold swp;rw[h1,h2];simp only[zB];rw[h];subst hi hj
 have e: ∀(u v:α) (z:List α),(p++u ::(q++z)).set p.length v=p++v ::(q++z):=fun u v z=>by rw[xB _ _ (by omega),zG,su]
 have e2: ∀(u v w:α),(p++u ::(q++w :: s)).set (p.length+1+q.length) v=p++u ::(q++v :: s):=fun u v w=>by
  rw[xB _ _ (by omega),show p.length+1+q.length - p.length=q.length+1 by omega,sF,xB _ _ (by omega),zG,su]
 exact⟨by rw[e,e2],by rw[e2,e]⟩
omit [Inhabited α]
def Ch (le:α->α->Bool) (w:Nat) (l:List α):Prop:= ∀k,Srt le ((l.drop (k*w)).take w)
theorem Ch.head {w:Nat} {l:List α} (h:Ch le w l):Srt le (l.take w):=by simpa using h 0
theorem Ch.tail {w:Nat} {l:List α} (h:Ch le w l):Ch le w (l.drop w):=fun k=>by
 have:=h (k+1);rw[y9,x8,<-x9];exact this
theorem Ch.nil (w:Nat):Ch le w []:=fun k=>by simp
theorem Ch.snoc {w k0:Nat} {p c:List α} (h:Ch le w p) (hp:p.length=k0*w) (hc:Srt le c) (hl:c.length<=w):Ch le w (p++c):=fun k=>by
 rcases zY k k0 with hk|rfl|hk
 ·have:k*w+w<=k0*w:=by have:=vU w (show k+1<=k0 from hk);rwa [x9]at this
  rw[List.drop_append_of_le_length (by omega),List.take_append_of_le_length (by rw[uJ];omega)]
  exact h k
 ·rw[<-hp,yg,sG hl]
  exact hc
 have:k0*w+w<=k*w:=by have:=vU w (show k0+1<=k from hk);rwa [x9]at this
 rw[List.drop_eq_nil_of_le (by rw[rP];omega)]
 simp
theorem Ch.all {w:Nat} {l:List α} (h:Ch le w l) (hl:l.length<=w):Srt le l:=by
 have:=h.head
 rwa [sG hl]at this
variable [Inhabited α]
theorem seg_get {d:Array α} {p l r:List α} {a t:Nat} (h:d.toList=p ++(l++r)) (hp:p.length=a) (h1:a<=t) (h2:t<a+l.length):l[t - a]?=some d[t]!/\t<d.size:=by
 have e:d.toList[t]?=l[t - a]?:=by rw[h,uI (by omega),hp,uN (by omega)]
 obtain⟨x,hx⟩: ∃x,l[t - a]?=some x:=⟨_,ay (by omega)⟩
 rw[hx]at e;obtain⟨e1,e2⟩:=get_list rfl e;exact⟨by rw[hx,e1],e2⟩
theorem left_one {d:Array α} {p B s:List α} {e:α} {a b i:Nat} (hT:Tot le) (h:d.toList=p ++(e ::(B++s))) (hp:p.length=a) (hb:a+1+B.length=b) (hB:Srt le B) (hi:a+1<=i) (hi2:i<=b) (h1:i=a+1\/le d[i - 1]! e=true) (h2:i=b\/le e d[i]! =true):
  Srt le (B.take (i -(a+1))++e :: B.drop (i -(a+1)))/\(B.take (i -(a+1))++e :: B.drop (i -(a+1))).Perm (e :: B):=by
 have h':d.toList=(p++[e]) ++(B++s):=by rw[h];simp
 have hp':(p++[e]).length=a+1:=by rw[rP,hp];rfl
 refine⟨ins_at hT hB ?_ ?_,perm_ins _⟩
 ·rcases h1 with rfl|h1
  ·exact .inl (zG _)
  by_cases h0:i=a+1
  ·exact .inl (by omega)
  exact .inr ⟨_,by rw[show i -(a+1) - 1=i - 1 -(a+1) by omega];exact(seg_get h' hp' (by omega) (by omega)).1,h1⟩
 rcases h2 with rfl|h2
 ·exact .inl (by omega)
 by_cases h0:i=b
 ·exact .inl (by omega)
 exact .inr ⟨_,(seg_get h' hp' (by omega) (by omega)).1,h2⟩
theorem right_one {d:Array α} {p A s:List α} {e:α} {a m i:Nat} (hT:Tot le) (h:d.toList=p ++(A++e :: s)) (hp:p.length=a) (hm:a+A.length=m) (hA:Srt le A) (hi:a<=i) (hi2:i<=m) (h1:i=a\/le d[i - 1]! e=true) (h2:i=m\/le e d[i]! =true):
  Srt le (A.take (i - a)++e :: A.drop (i - a))/\(A.take (i - a)++e :: A.drop (i - a)).Perm (A++[e]):=by
 refine⟨ins_at hT hA ?_ ?_,(perm_ins _).trans (List.perm_append_singleton e A).symm⟩
 ·rcases h1 with rfl|h1
  ·exact .inl (zG _)
  by_cases h0:i=a
  ·exact .inl (by omega)
  exact .inr ⟨_,by rw[show i - a - 1=i - 1 - a by omega];exact(seg_get h hp (by omega) (by omega)).1,h1⟩
 rcases h2 with rfl|h2
 ·exact .inl (by omega)
 by_cases h0:i=m
 ·exact .inl (by omega)
 exact .inr ⟨_,(seg_get h hp (by omega) (by omega)).1,h2⟩
theorem mid_split {d:Array α} {p A B s:List α} {a m b mid st:Nat} (h:d.toList=p ++(A ++(B++s))) (hp:p.length=a) (hm:a+A.length=m) (hb:m+B.length=b) (hs0:a<=st) (hs1:st<=m) (hs2:st<=mid) (hs3:mid+m - st<=b)
  (h1:st=a\/mid+m - st=b\/le d[st - 1]! d[mid+m - 1 -(st - 1)]! =true) (h2:st=m\/st=mid\/le d[mid+m - 1 - st]! d[st]! =true):
  (st - a=0\/mid - st=B.length\/ ∃x y,A[st - a - 1]?=some x/\B[mid - st]?=some y/\le x y=true)/\
  (st - a=A.length\/mid - st=0\/ ∃x y,B[mid - st - 1]?=some x/\A[st - a]?=some y/\le x y=true):=by
 have h':d.toList=(p++A) ++(B++s):=by rw[h];simp
 have hp':(p++A).length=m:=by rw[rP,hp];exact hm
 constructor
 ·by_cases e1:st=a
  ·exact .inl (by omega)
  by_cases e2:mid+m - st=b
  ·exact .inr (.inl (by omega))
  refine .inr (.inr ⟨_,_, ?_, ?_,(h1.resolve_left e1).resolve_left e2⟩)
  ·rw[show st - a - 1=st - 1 - a by omega];exact(seg_get h hp (by omega) (by omega)).1
  rw[show mid - st=mid+m - 1 -(st - 1) - m by omega];exact(seg_get h' hp' (by omega) (by omega)).1
 by_cases e1:st=m
 ·exact .inl (by omega)
 by_cases e2:st=mid
 ·exact .inr (.inl (by omega))
 refine .inr (.inr ⟨_,_, ?_, ?_,(h2.resolve_left e1).resolve_left e2⟩)
 ·rw[show mid - st - 1=mid+m - 1 - st - m by omega];exact(seg_get h' hp' (by omega) (by omega)).1
 exact(seg_get h hp (by omega) (by omega)).1
omit [Inhabited α] in
theorem swo_of {lt:α->α->Bool} (hT:Tot le) (hcf: ∀x y,lt x y= !le y x):SWO lt:=by
 refine⟨fun x=>by rw[hcf,le_refl hT];rfl,fun x y z h1 h2=> ?_,fun x y z h1 h2=> ?_⟩
 ·rw[hcf]at h1 h2⊢
  simp only[yU]at h1 h2⊢;cases h:le z x with
  |false=>rfl
  |true=>rw[hT.trans (hT.total h2) h]at h1;exact Bool.noConfusion h1
 rw[hcf]at h1 h2⊢;simp only[BI]at h1 h2⊢;exact hT.trans h2 h1
theorem lists_of {lt:α->α->Bool} {d d':Array α} {a b:Nat} {p x s:List α} (h:PermIn a b d d') (hs:SortedIn lt a b d') (hcf: ∀x y,lt x y= !le y x) (hl:d.toList=p ++(x++s)) (ha:p.length=a) (hx:a+x.length=b):
  ∃x',d'.toList=p ++(x' ++ s)/\Srt le x'/\x'.Perm x:=by
 obtain⟨h1,h2,h3⟩:=h;have hlen:=uo List.length hl;simp only[vH,rP]at hlen
 have hd: ∀i,i<d.size->d.toList[i]?=some d[i]!:=fun i hi=>by rw[xJ d i hi,<-zA,ay]
 have hd': ∀i,i<d.size->d'.toList[i]?=some d'[i]!:=fun i hi=>by rw[xJ d' i (by omega),<-zA,ay]
 have e: ∀(c:Array α),(c.extract a b).toList=(c.toList.drop a).take (b - a):=fun c=>by rw[Array.toList_extract,List.extract_eq_take_drop]
 have hp:d'.toList.take a=p:=by
  refine yZ fun i=> ?_
  rcases wW i a with hi|hi
  ·rw[xK hi,hd' i (by omega),h2 i (.inl hi),<-hd i (by omega),hl,uN (by omega)]
  rw[vJ (by rw[tK];omega),vJ (by omega)]
 have hq:d'.toList.drop b=s:=by
  refine yZ fun i=> ?_
  rw[zO]
  rcases wW (b+i) d.size with hi|hi
  ·rw[hd' _ hi,h2 _ (.inr (by omega)),<-hd _ hi,hl,uI (by omega),uI (by omega)]
   congr 1
   omega
  rw[vJ (by rw[vH];omega),vJ (by omega)]
 refine⟨(d'.toList.drop a).take (b - a), ?_, ?_, ?_⟩
 ·conv=>lhs;rw[<-uz a d'.toList,<-uz (b - a) (d'.toList.drop a),y9]
  rw[hp,show a+(b - a)=b by omega,hq]
 ·refine wO.2 fun i j hi hj hij=> ?_
  simp only[tK,uJ,vH]at hi hj;have:=hs (a+i) (a+j) (by omega) (by omega) (by omega)
  rw[hcf,BI]at this
  simpa[yY,List.getElem_drop,xJ d' (a+i) (by omega),xJ d' (a+j) (by omega)] using this
 rw[e,e]at h3;refine h3.trans ?_
 rw[hl,show(p ++(x++s)).drop a=x++s by rw[<-ha,yg],show b - a=x.length by omega,xO]
end Go.Proofs.YtanlehkalkafdaaGreatDoor.Stb
namespace Go.Proofs.YtanlehkalkafdaaGreatDoor.Stb
open Go Go.Shelf
def rnO (ρ:Ren):Operand->Operand
 |.func f=> .func (ρ.f f)
 |x=>x
def rnE (ρ:Ren):Callee->Callee
 |.value f=> .value (rnO ρ f)
 |x=>x
def rnOp (ρ:Ren):Op->Op
 |.move x=> .move (rnO ρ x)
 |.assign x=> .assign (rnO ρ x)
 |.pick a b c=> .pick (rnO ρ a) (rnO ρ b) (rnO ρ c)
 |.load t a=> .load (ρ.t t) (rnO ρ a)
 |.store t a v=> .store (ρ.t t) (rnO ρ a) (rnO ρ v)
 |.binOp o t x y u=> .binOp o (ρ.t t) (rnO ρ x) (rnO ρ y) (ρ.t u)
 |.unOp o t x=> .unOp o (ρ.t t) (rnO ρ x)
 |.convert s d x=> .convert (ρ.t s) (ρ.t d) (rnO ρ x)
 |.indexAddr t x i=> .indexAddr (ρ.t t) (rnO ρ x) (rnO ρ i)
 |.call c=> .call ⟨rnE ρ c.callee,(c.args.toList.map (rnO ρ)).toArray,(c.argTypes.toList.map ρ.t).toArray⟩
 |o=>o
def rnR (ρ:Ren) (o:Oper):Oper:=⟨o.dst,rnOp ρ o.op,ρ.t o.type,o.pos,o.after,o.guard⟩
def rnC (ρ:Ren):Code->Code
 |.region i ops d=> .region i (ops.toList.map (rnR ρ)).toArray d
 |.seq a b=> .seq (rnC ρ a) (rnC ρ b)
 |.cond c a b=> .cond (rnO ρ c) (rnC ρ a) (rnC ρ b)
 |.block i b=> .block i (rnC ρ b)
 |.loop b=> .loop (rnC ρ b)
 |.scope b=> .scope (rnC ρ b)
 |c=>c
def Bd (P:Program) (ρ:Ren) (i:Nat) (f:Func):Prop:= ∃(nm:String) (tg ps rt:Array TypeId),(nm == "runtime.NumGoroutine")=false/\P.funcs[ρ.f i]?=some {f with name:=nm,targs:=tg,params:=ps,resultTypes:=rt,body:=f.body.map (rnC ρ)}
theorem Bd.enters {P:Program} {ρ:Ren} {i:Nat} {f:Func} {c:Code} (h:Bd P ρ i f) (hb:f.body=some c): ∀args w,(callFunc (ρ.f i) args).run P w=.ok (.enter (ρ.f i) args) w:=by
 obtain⟨nm,tg,ps,rt,hn,hf⟩:=h;exact enters_of hf hn (c:=rnC ρ c) (by rw[hb];rfl)
end Go.Proofs.YtanlehkalkafdaaGreatDoor.Stb
