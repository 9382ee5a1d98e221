/- Contracts and plain laws,part 10. -/
import Derived.Test.YtoofbflplhbpbaaGreatDoorUO09
import Derived.Deep.RegionLaw
set_option maxHeartbeats 64000000
set_option maxRecDepth 1000000
set_option linter.all false
namespace Go.Proofs.YtoofbflplhbpbaaGreatDoor
open Go.RowKit
theorem MN {ops:Array Oper} {o:Oper} {a:Act} {K:Act->World->Prop} {Q:Exit->Act->World->Prop} {E:Prop} (hgd:o.guard=none) (s x:Operand) (T e:TypeId) (z:Value) (bytes:Nat)
  (hT:Tryz.prog.underlying T=some (.slice e)) (hinfo:(Tryz.prog.info? e).map (fun i=>(i.zero,i.size,i.bytes))=some (some z,1,bytes)) (hz:z.cells.size=1) (hby:bytes<=24)
  (ho:o.op= .call {callee:= .builtin .append,args:= #[s,x],argTypes:= #[T,T]})
  (B:Nat) (v:Value) (n:Nat) (xs:List Value) (W:World) (hs:a.eval s=v) (h:W.ownsRow B e 1 v n xs) (u:Value) (hu:u.oneCell'=true)
  (hx:a.eval x= .slice (some ⟨W.heap.size,0,none⟩) 1 1) (hl:n<1073741824) (hB:B<=W.heap.size)
  (k: ∀v' w',w'.ownsRow B e 1 v' (n+1) (xs ++ [u])->W.grownBy w' v.ownBlock->(v'.ownBlock=v.ownBlock\/ ∃g,v'.ownBlock=some g/\W.heap.size<=g)->Below B W w'->K (a.put o.dst v') w'):
  if Region.wanted o (yielded ops a.tmps)=true then Oper.wp Tryz.prog o a (W.alloc (.cells #[u] e)) K Q else E:=by
 have hw:Region.wanted o (yielded ops a.tmps)=true:=by simp [Region.wanted,hgd]
 rw [ab7 hw];obtain ⟨i0,hi,hz0,hz1,hz2⟩:=info_parts hinfo
 have hnews: ∀j u',([u]:List Value)[j]?=some u'->(W.alloc (.cells #[u] e)).cell? ((⟨W.heap.size,0,none⟩:Addr).add j)=some u':=cell_one_new _ _ _
 obtain ⟨v',w',hrun,h2,h3,h4,h5⟩:=run_append_own_at (P:=Tryz.prog) (W.alloc (.cells #[u] e)) B T o.type e i0 z 1 bytes hT hi hz0 hz1 hz2 hz (by decide) v n xs (World.ownsRow.alloc h _) ⟨W.heap.size,0,none⟩ 1 1 [u] rfl hnews (fun y hy=>by rw [adg.1 hy];exact hu) (by unfold maxLen;omega) (by
  have:(n+1)*bytes<=1073741824*24:=alj (by omega) hby
  omega) (by simp;omega)
 unfold Oper.wp execOp
 simp only [ho,resolve,invoke,builtin,Sem.run_bind,Sem.run_pure,Result.andThen_ok,anx,adA,aek,hs,hx,hrun]
 refine k v' w' h2 (dU (vH (fO W _) _) h3) (h5.imp id (fun h=>⟨_,h,by simp⟩)) ?_
 exact ((Below.refl B W).alloc hB _).grown h3 (by simp;omega) (fun j e=>(World.ownsRow.lt h j e).1)
theorem Reads.cell {w:World} {B:Nat} {A:Option Addr} {n:Nat} {xs:List Value} (h:Reads w B 1 A n xs) {k:Nat} (hk:k<n): ∃b o u,A=some ⟨b,o,none⟩/\b<B/\xs[k]?=some u/\w.cell? ⟨b,o+k,none⟩=some u:=by
 obtain ⟨b,o,u,h1,h2,h3,h4⟩:=h.at_ hk;exact ⟨b,o,u,h1,h2,h3,h4⟩
theorem agn (B:Nat) (u1 u2:Value) (v:ak.V) (w:World) (h1:jR w B u1 v) (h2:jR w B u2 v) (hB:B<=w.heap.size):
  Calls Tryz.prog 82 #[u1,u2] w fun e w'=>e= .returned (.bool true)/\Below w.heap.size w w':=by
 obtain ⟨A1,c1,A2,c2,rfl,cO,bP⟩:=h1.ex;obtain ⟨A3,c3,A4,c4,rfl,N8,N9⟩:=h2.ex
 have hnl:=h1.nl;have hsl:=h1.sl;have hu:=lD;clear h1 h2;obtain ⟨k0,n0,t0,ns,ts⟩:=v
 simp only at cO bP N8 N9 hnl hsl⊢;obtain ⟨nn,hnn⟩: ∃n,ns.length=n:=⟨_,rfl⟩
 obtain ⟨tn,htn⟩: ∃n,ts.length=n:=⟨_,rfl⟩
 obtain ⟨z,hz⟩: ∃z:ByteArray,(⟨t0.toArray⟩:ByteArray)=z:=⟨_,rfl⟩;rw [hnn] at cO N8 hnl⊢
 rw [htn] at bP N9 hsl⊢;rw [hz]
 obtain ⟨W1,hW1⟩: ∃W1,(w.alloc (.cells #[.int .i64 k0, .int .i64 n0, .string z, .slice A1 nn c1, .slice A2 tn c2] 25)).alloc (.cells #[.int .i64 k0, .int .i64 n0, .string z, .slice A3 nn c3, .slice A4 tn c4] 25)=W1:=⟨_,rfl⟩
 have hb1:Below w.heap.size w W1:=by rw [<-hW1];exact ((Below.refl _ w).alloc (ab1 _) _).alloc (by simp) _
 have k1:aj W1 w.heap.size 25 #[.int .i64 k0, .int .i64 n0, .string z, .slice A1 nn c1, .slice A2 tn c2]:=by rw [<-hW1];exact (aj.new _ _ _).alloc _
 have k2:aj W1 (w.heap.size+1) 25 #[.int .i64 k0, .int .i64 n0, .string z, .slice A3 nn c3, .slice A4 tn c4]:=by rw [<-hW1];have:=aj.new (w.alloc (.cells #[.int .i64 k0, .int .i64 n0, .string z, .slice A1 nn c1, .slice A2 tn c2] 25)) 25 #[.int .i64 k0, .int .i64 n0, .string z, .slice A3 nn c3, .slice A4 tn c4];simpa using this
 have xX:=ah (cO.below (hb1.mono hB));have xY:=ah (bP.below (hb1.mono hB))
 have RB1:=ah (N8.below (hb1.mono hB));have RB2:=ah (N9.below (hb1.mono hB))
 have HB1:=ah hb1;have HW1:=ah hW1;have a0:=k1.cell 0;have a1:=k1.cell 1
 have a2:=k1.cell 2;have a3:=k1.cell 3;have a4:=k1.cell 4;have b0:=k2.cell 0
 have b1:=k2.cell 1;have b2:=k2.cell 2;have b3:=k2.cell 3;have b4:=k2.cell 4
 simp at a0 a1 a2 a3 a4 b0 b1 b2 b3 b4;clear cO bP N8 N9 hnn htn hz k1 k2 hb1 hW1
 go_enter Tryz.func82,Tryz.ntmps82
 go_upto_region 1 with fail
 rw [HW1.out];clear HW1;go_wp2_with fail
 go_loopg [5] nn (fun g x wr=> ∃k m:Nat,x= .int .i64 k/\k+g=nn/\W1.drewN m=wr)
 case atStart=>exact ⟨0,0,rfl,by omega,rfl⟩
 obtain ⟨k,m,rfl,hk,rfl⟩:=hrel;have qQ:(k:Int)<=1073741824:=by omega
 have HK:=ah hk;cases gk with
 | zero=>
  obtain rfl:k=nn:=by omega
  clear hk;go_wp2_with fail
  go_loopg [6] tn (fun g x wr=> ∃j m:Nat,x= .int .i64 j/\j+g=tn/\W1.drewN m=wr)
  case atStart=>exact ⟨0,m,rfl,by omega,rfl⟩
  obtain ⟨j,m,rfl,hj,rfl⟩:=hrel;have lT:(j:Int)<=1073741824:=by omega
  have HJ:=ah hj;cases gk with
  | zero=>
   obtain rfl:j=tn:=by omega
   clear hj;go_wp2;go_ret;exact ⟨rfl,below_drewN HB1.out _⟩
  | succ g=>
   have hjn:j<tn:=by omega
   have lT:(j:Int)<tn:=by omega
   obtain ⟨p,o,x,rfl,-,hx,hp⟩:=xY.out.cell hjn
   obtain ⟨p',o',x',rfl,-,hx',hp'⟩:=RB2.out.cell hjn;rw [hx] at hx'
   obtain rfl:x=x':=acE hx';rw [acJ] at hx;obtain ⟨y,-,rfl⟩:=ac7.1 hx;unfold ST at hp hp'
   clear hx hx' hj;go_wp2_with fail
   go_quiet (fail)
   go_wp2
   go_roundg g
   case measure=>omega
   exact ⟨j+1,m+nq,int_eq' (by omega),by have:=HJ.out;omega,rfl⟩
 | succ g=>
  have hkn:k<nn:=by omega
  have dD:(k:Int)<nn:=by omega
  obtain ⟨p,o,x,rfl,-,hx,hp⟩:=xX.out.cell hkn
  obtain ⟨p',o',x',rfl,-,hx',hp'⟩:=RB1.out.cell hkn;rw [hx] at hx'
  obtain rfl:x=x':=acE hx';rw [acJ] at hx;obtain ⟨y,-,rfl⟩:=ac7.1 hx;unfold I64 at hp hp'
  clear hx hx' hk;go_wp2_with fail
  go_quiet (fail)
  go_wp2
  go_roundg g
  case measure=>omega
  exact ⟨k+1,m+nq,int_eq' (by omega),by have:=HK.out;omega,rfl⟩
structure rQ (W:World) (B:Nat) (u:Value) (v:ak.V):Prop where
 ex: ∃s t,u= .agg #[.int .i64 v.kind, .int .i64 v.num, .string ⟨v.text.toArray⟩,s,t]/\W.ownsRow B 2 1 s v.nums.length (v.nums.map I64)/\W.ownsRow B 9 1 t v.texts.length (v.texts.map ST)
structure BN (v:ak.V):Prop where
 kin:ak.In64 v.kind
 num:ak.In64 v.num
 nums: ∀n∈v.nums,ak.In64 n
 tl:v.text.length<=1073741824
 nl:v.nums.length<=1073741824
 sl:v.texts.length<=1073741824
 sz: ∀t∈v.texts,t.length<=1073741824
theorem jR.ok {W:World} {B:Nat} {u:Value} {v:ak.V} (h:jR W B u v):BN v:=⟨h.kin,h.num,h.nums,h.tl,h.nl,h.sl,h.sz⟩
theorem rQ.below {W W':World} {B:Nat} {u:Value} {v:ak.V} (h:rQ W B u v) (hb:Below W.heap.size W W'):rQ W' B u v:=by
 obtain ⟨s,t,rfl,h1,h2⟩:=h.ex
 exact ⟨s,t,rfl,dS h1 (iT hb none) (fun g c t fz hr=>by cases hr),dS h2 (iT hb none) (fun g c t fz hr=>by cases hr)⟩
theorem Yv:(Tryz.prog.info? 2).map (fun i=>(i.zero,i.size,i.bytes))=some (some (.int .i64 0),1,8):=by kernel_rfl
theorem Fq:(Tryz.prog.info? 9).map (fun i=>(i.zero,i.size,i.bytes))=some (some (.string ⟨#[]⟩),1,16):=by kernel_rfl
namespace ak
def lF (k:Int):Int:=if 4<k then k - 4 else k
end ak
theorem agp (n:Int):ak.yT n=((((ak.u64 n % 9223372036854775808 / 4503599627370496:Nat):Int) == 2047) &&(((ak.u64 n*4096 % 18446744073709551616:Nat):Int) !=0) &&((ak.u64 n:Int) !=9221120237041090560)):=by
 unfold ak.yT;have h:=ak.AV n;obtain ⟨b,hb⟩: ∃b,ak.u64 n=b:=⟨_,rfl⟩;rw [hb] at h⊢;rw [alp]
 simp only [adr,acZ,adp,acV,ne_eq];omega
theorem QC (k:Int) (w:World) (hk:ak.In64 k):
  Calls Tryz.prog 123 #[.int .i64 k] w fun e w'=>e= .returned (.int .i64 (ak.lF k))/\w=w':=by
 obtain ⟨h1,h2⟩:=hk;unfold ak.lF;by_cases h:4<k
 ·rw [ab7 h]
  go_enter Tryz.func123,Tryz.ntmps123;go_wp2;go_ret;exact ⟨rfl,rfl⟩
 rw [ab6 h];have h':k<=4:=by omega
 go_enter Tryz.func123,Tryz.ntmps123;go_wp2;go_ret;exact ⟨rfl,rfl⟩
theorem Yw (k n:Int) (w:World) (hk:ak.In64 k) (_hn:ak.In64 n):
  Calls Tryz.prog 69 #[.int .i64 k, .int .i64 n] w fun e w'=>e= .returned (.int .i64 (ak.eY (ak.lF k) n:Nat))/\w=w':=by
 have hb:=fun (W:World)=>QC k W hk
 obtain ⟨c,hc⟩: ∃c,ak.lF k=c:=⟨_,rfl⟩;rw [hc] at hb⊢;have HB:=ah hb
 obtain ⟨R,hR⟩: ∃R,ak.eY c n=R:=⟨_,rfl⟩;rw [hR];unfold ak.eY at hR;clear hk _hn hb hc
 by_cases h1:c=1
 ·subst h1
  by_cases h0:n=0
  ·subst h0
   rw [ab6 (by omega),ab6 (by omega)] at hR
   subst hR;go_enter Tryz.func69,Tryz.ntmps69;go_wp2_with fail;refine (HB.out _).mono ?_
   rintro e w' ⟨rfl,rfl⟩;go_wp2;go_ret;exact ⟨rfl,rfl⟩
  by_cases h01:n=1
  ·subst h01
   rw [ab6 (by omega),ab6 (by omega)] at hR
   subst hR;go_enter Tryz.func69,Tryz.ntmps69;go_wp2_with fail;refine (HB.out _).mono ?_
   rintro e w' ⟨rfl,rfl⟩;go_wp2;go_ret;exact ⟨rfl,rfl⟩
  rw [ab7 ⟨rfl,h0,h01⟩] at hR;subst hR;have t0:(n !=0)=true:=acV.2 h0
  have t1:(n !=1)=true:=acV.2 h01;clear h0 h01;go_enter Tryz.func69,Tryz.ntmps69
  go_wp2_with fail;refine (HB.out _).mono ?_;rintro e w' ⟨rfl,rfl⟩;go_wp2;go_ret
  exact ⟨rfl,rfl⟩
 have t0:(c == 1)=false:=ab3.2 h1;by_cases h3:c=3
 ·subst h3
  rw [ab6 (by omega)] at hR
  have hw:=Ik n;have hnr:=agp n;have hb:=ak.AV n;obtain ⟨b,hbb⟩: ∃b,ak.u64 n=b:=⟨_,rfl⟩
  rw [hbb] at hw hnr hb
  obtain ⟨q,hq⟩: ∃q,b % 9223372036854775808 / 4503599627370496=q:=⟨_,rfl⟩
  obtain ⟨g,hg⟩: ∃g,b*4096 % 18446744073709551616=g:=⟨_,rfl⟩;have r1:=Yb b hb
  rw [hq] at r1 hnr;rw [hg] at hnr
  have r2:IntKind.u64.wrap ((b:Int)*4096)=(g:Int):=by rw [IntKind.wrap_u64];omega
  obtain ⟨E,hE⟩: ∃E,((q:Int) == 2047)=E:=⟨_,rfl⟩
  obtain ⟨F,hF⟩: ∃F,((g:Int) !=0)=F:=⟨_,rfl⟩
  obtain ⟨G,hG⟩: ∃G,((b:Int) !=9221120237041090560)=G:=⟨_,rfl⟩;rw [hE,hF,hG] at hnr
  have hu:=lD;have hr:R=if (E && F && G)=true then 43 else 0:=by rw [<-hR,hnr];simp
  have HR:=ah hr;have hbi:(0:Int)<=b:=by omega
  clear hR hr hnr hbb hb t0 h1 hq hg;cases E with
  | false=>
   go_enter Tryz.func69,Tryz.ntmps69;go_wp2_with fail;refine (HB.out _).mono ?_
   rintro e w' ⟨rfl,rfl⟩;go_wp2;go_ret;exact ⟨by rw [HR.out];rfl,rfl⟩
  | true=>
   cases F with
   | false=>
    go_enter Tryz.func69,Tryz.ntmps69;go_wp2_with fail;refine (HB.out _).mono ?_
    rintro e w' ⟨rfl,rfl⟩;go_wp2;go_ret;exact ⟨by rw [HR.out];rfl,rfl⟩
   | true=>
    cases G with
    | false=>
     go_enter Tryz.func69,Tryz.ntmps69;go_wp2_with fail;refine (HB.out _).mono ?_
     rintro e w' ⟨rfl,rfl⟩;go_wp2;go_ret;exact ⟨by rw [HR.out];rfl,rfl⟩
    | true=>
     go_enter Tryz.func69,Tryz.ntmps69;go_wp2_with fail;refine (HB.out _).mono ?_
     rintro e w' ⟨rfl,rfl⟩;go_wp2;go_ret;exact ⟨by rw [HR.out];rfl,rfl⟩
 rw [ab6 (by omega),ab6 (by omega)] at hR
 subst hR;have t3:(c == 3)=false:=ab3.2 h3;clear h1 h3;go_enter Tryz.func69,Tryz.ntmps69
 go_wp2_with fail;refine (HB.out _).mono ?_;rintro e w' ⟨rfl,rfl⟩;go_wp2;go_ret
 exact ⟨rfl,rfl⟩
theorem agq (s:ByteArray) (w:World):Calls Tryz.prog 68 #[.string s] w fun e w'=>e= .returned (.bool (decide (1000<s.size)))/\w=w':=by
 by_cases h:1000<s.size
 ·rw [abW h]
  have h':(1000:Int)<s.size:=by omega
  have t:decide (1000<s.size)=true:=abW h;go_enter Tryz.func68,Tryz.ntmps68;go_wp2;go_ret
  exact ⟨by simp,rfl⟩
 rw [abX h];have h':(s.size:Int)<=1000:=by omega
 have t:decide (1000<s.size)=false:=abX h;go_enter Tryz.func68,Tryz.ntmps68;go_wp2;go_ret
 exact ⟨by simp;omega,rfl⟩
def Bf:List (List UInt8)->Nat->Int
 | [],_=> -1
 | t :: r,i=>if 1000<t.length then (i:Int) else Bf r (i+1)
theorem Yx: ∀(l:List (List UInt8)) (i:Nat),decide (0<=Bf l i)=ak.jr l
 | [],i=>rfl
 | t :: r,i=>by
  unfold Bf ak.jr;rw [List.any_cons];by_cases h:1000<t.length
  ·rw [ab7 h,abW h,Bool.true_or]
   exact abW (by omega)
  rw [ab6 h,abX h,ao4];exact Yx r (i+1)
theorem agr (B:Nat) (A:Option Addr) (n c:Nat) (ts:List (List UInt8)) (w:World) (h:Reads w B 1 A n (ts.map ST)) (hn:ts.length=n) (hl:n<=1073741824) (hsz: ∀t∈ts,t.length<=1073741824):
  Calls Tryz.prog 124 #[.slice A n c, .func (.func 68) #[] #[]] w fun e w'=>e= .returned (.int .i64 (Bf ts 0))/\w=w':=by
 obtain ⟨R,hR⟩: ∃R,Bf ts 0=R:=⟨_,rfl⟩;rw [hR];have H:=ah h;have HN:=ah hn;have HR:=ah hR
 have dL:=ah hsz;have qR:=ah agq;clear h hn hR hsz;go_enter Tryz.func124,Tryz.ntmps124
 go_wp2_with fail
 go_loopg [8] n (fun g x wr=> ∃k:Nat,x= .int .i64 k/\k+g=n/\Bf (ts.drop k) k=R/\w=wr)
 case atStart=>exact ⟨0,rfl,by omega,HR.out,rfl⟩
 obtain ⟨k,rfl,hk,hr,rfl⟩:=hrel;have HK:=ah hk;have HRK:=ah hr
 have qQ:(k:Int)<=1073741824:=by omega
 clear hr;cases gk with
 | zero=>
  obtain rfl:k=n:=by omega
  have hr:=HRK.out;rw [ak0 (by have:=HN.out;omega)] at hr
  have HRR:=ah (show -1=R from hr)
  clear hk hr;go_wp2;go_ret;exact ⟨by rw [<-HRR.out];rfl,rfl⟩
 | succ g=>
  have hkn:k<n:=by omega
  have dD:(k:Int)<n:=by omega
  have hkl:k<ts.length:=by rw [HN.out];exact hkn
  obtain ⟨p,o,x,rfl,-,hx,hp⟩:=H.out.cell hkn;rw [acJ,ab2 hkl] at hx
  obtain rfl:=(acE hx).symm;have hr:=HRK.out;rw [adC hkl] at hr
  have hyl:(ts[k]).length<=1073741824:=dL.out _ (aoT _);obtain ⟨y,hy⟩: ∃y,ts[k]=y:=⟨_,rfl⟩
  rw [hy] at hp hr hyl;unfold ST at hp
  obtain ⟨zy,hzy⟩: ∃z:ByteArray,(⟨y.toArray⟩:ByteArray)=z:=⟨_,rfl⟩;rw [hzy] at hp
  have hzs:zy.size=y.length:=by rw [<-hzy];exact bf _
  have hcall:=fun (W:World)=>qR.out zy W
  rw [hzs] at hcall;unfold Bf at hr;by_cases hl1:1000<y.length
  ·rw [ab7 hl1] at hr
   rw [abW hl1] at hcall;have HC:=ah hcall;have HRR:=ah hr
   clear hx hk hkl hy hzy hzs hcall hr hl1 hyl;go_wp2_with fail;refine (HC.out _).mono ?_
   rintro e w' ⟨rfl,rfl⟩;go_wp2;go_ret;exact ⟨by rw [<-HRR.out];rfl,rfl⟩
  rw [ab6 hl1] at hr;rw [abX hl1] at hcall;have HC:=ah hcall;have HRR:=ah hr
  clear hx hk hkl hy hzy hzs hcall hr hl1 hyl;go_wp2_with fail;refine (HC.out _).mono ?_
  rintro e w' ⟨rfl,rfl⟩;go_wp2
  go_roundg g
  case measure=>omega
  exact ⟨k+1,int_eq' (by omega),by have:=HK.out;omega,HRR.out,rfl⟩
theorem ags (B:Nat) (A:Option Addr) (n c:Nat) (ts:List (List UInt8)) (w:World) (h:Reads w B 1 A n (ts.map ST)) (hn:ts.length=n) (hl:n<=1073741824) (hsz: ∀t∈ts,t.length<=1073741824):
  Calls Tryz.prog 67 #[.slice A n c, .func (.func 68) #[] #[]] w fun e w'=>e= .returned (.bool (ak.jr ts))/\w=w':=by
 have hc:=agr B A n c ts w h hn hl hsz;obtain ⟨R,hR⟩: ∃R,Bf ts 0=R:=⟨_,rfl⟩
 obtain ⟨L,hL⟩: ∃L,ak.jr ts=L:=⟨_,rfl⟩;have he:=Yx ts 0;rw [hR,hL] at he;rw [hR] at hc
 rw [hL];have HC:=ah hc;clear hc hR hL h hn hl hsz;go_enter Tryz.func67,Tryz.ntmps67
 go_wp2_with fail;refine HC.out.mono ?_;rintro e w' ⟨rfl,rfl⟩;go_wp2;go_ret
 exact ⟨by simp,rfl⟩
end Go.Proofs.YtoofbflplhbpbaaGreatDoor
namespace Go.Proofs.YtoofbflplhbpbaaGreatDoor
open Go.RowKit
theorem Bg {w w':World} {B e e' n n' sz sz':Nat} {v x:Value} {xs ys:List Value} (h:w.ownsRow B e sz v n xs) (hg:w.grownBy w' x.ownBlock) (hx:w.ownsRow B e' sz' x n' ys) (hne:e'≠e):w'.ownsRow B e sz v n xs:=
 dS h hg (fun g c t fz hr hc=>by
  obtain ⟨_,c',hc'⟩:=mG hx g hr;rw [hc'] at hc;cases hc
  exact hne)
theorem jX {w:World} {B B' e sz n:Nat} {v:Value} {xs:List Value} (h:w.ownsRow B e sz v n xs) (hB:B'<=B):w.ownsRow B' e sz v n xs:=by
 refine ⟨h.1, ?_⟩
 rcases h.2 with hn |⟨g,cap,cur,rfl,hb,rest⟩
 ·exact .inl hn
 exact .inr ⟨g,cap,cur,rfl,ab5 hB hb,rest⟩
theorem ret_val {fn:Func} {R:Ending->World->Prop} {tmps:Array Value} {W:World} {p:Tmp} {b:Nat} {v0 v1 v2 v3 v4:Value} (hfn:fn.results= #[.cell p 25])
  (ht:tmps.getD p undef= .pointer (some ⟨b,0,none⟩)) (hB:aj W b 25 #[v0,v1,v2,v3,v4]) (hR:R (.returned (.agg #[v0,v1,v2,v3,v4])) W):
  bodyPost Tryz.prog fn R .ret {tmps:=tmps,defers:= []} W:=by
 have c0:=hB.cell 0;have c1:=hB.cell 1;have c2:=hB.cell 2;have c3:=hB.cell 3
 have c4:=hB.cell 4;simp at c0 c1 c2 c3 c4
 refine bodyPost_ret (v:= .agg #[v0,v1,v2,v3,v4]) ?_ rfl hR;simp at ht
 simp [results,hfn,go_sem,ht,c0,c1,c2,c3,c4]
theorem gY {W:World} {b:Nat} {v0 v1 v2 v3 v4:Value} (h:aj W b 25 #[v0,v1,v2,v3,v4]):
  W.cell? ⟨b,0,none⟩=some v0/\W.cell? ⟨b,1,none⟩=some v1/\W.cell? ⟨b,2,none⟩=some v2/\W.cell? ⟨b,3,none⟩=some v3/\W.cell? ⟨b,4,none⟩=some v4/\
  W.frozen? ⟨b,0,none⟩=false/\W.frozen? ⟨b,1,none⟩=false/\W.frozen? ⟨b,2,none⟩=false/\W.frozen? ⟨b,3,none⟩=false/\W.frozen? ⟨b,4,none⟩=false:=
 ⟨h.cell 0,h.cell 1,h.cell 2,h.cell 3,h.cell 4,h.frozen 0,h.frozen 1,h.frozen 2,h.frozen 3,h.frozen 4⟩
theorem QD {W:World} {b:Nat} {u0 u1 u2 u3 u4:Value} (h:aj W b 25 #[u0,u1,u2,u3,u4]) (v0 v1 v2 v3 v4:Value):
  aj (((((W.setCell ⟨b,0,none⟩ v0).setCell ⟨b,1,none⟩ v1).setCell ⟨b,2,none⟩ v2).setCell ⟨b,3,none⟩ v3).setCell ⟨b,4,none⟩ v4) b 25 #[v0,v1,v2,v3,v4]:=
 aj.cast (((((h.aS 0 v0).aS 1 v1).aS 2 v2).aS 3 v3).aS 4 v4) (by simp)
theorem QE (W:World) (b:Nat) (v0 v1 v2 v3 v4:Value):W.grownBy (((((W.setCell ⟨b,0,none⟩ v0).setCell ⟨b,1,none⟩ v1).setCell ⟨b,2,none⟩ v2).setCell ⟨b,3,none⟩ v3).setCell ⟨b,4,none⟩ v4) (some b):=
 dU (dU (dU (dU (grownBy_set W ⟨b,0,none⟩ v0) (grownBy_set _ ⟨b,1,none⟩ v1)) (grownBy_set _ ⟨b,2,none⟩ v2)) (grownBy_set _ ⟨b,3,none⟩ v3)) (grownBy_set _ ⟨b,4,none⟩ v4)
structure uh (w:World) (a r:Array Value) (c0 c1 c2 s t:Value) (k j:Nat) (xs ys:List Value) (W:World):Prop where
 arg:aj W w.heap.size 25 a
 res:aj W (w.heap.size+1) 25 r
 DT:aj W (w.heap.size+2) 25 #[c0,c1,c2,s,t]
 own:W.ownsRow (w.heap.size+3) 2 1 s k xs
 owt:W.ownsRow (w.heap.size+3) 9 1 t j ys
 bel:Below w.heap.size w W
 big:w.heap.size+3<=W.heap.size
theorem uh.drew {w:World} {a r:Array Value} {c0 c1 c2 s t:Value} {k j:Nat} {xs ys:List Value} {W:World} (h:uh w a r c0 c1 c2 s t k j xs ys W):uh w a r c0 c1 c2 s t k j xs ys W.drew:=
 ⟨h.arg,h.res,h.DT,dS h.own (X9 (fO _ none)) (fun g c t fz e=>by cases e),dS h.owt (X9 (fO _ none)) (fun g c t fz e=>by cases e),h.bel.drew,h.big⟩
theorem uh.num {w:World} {a r:Array Value} {c0 c1 c2 s t:Value} {k j:Nat} {xs ys:List Value} {W W1:World} {s' u:Value} (h:uh w a r c0 c1 c2 s t k j xs ys W)
  (ho:W1.ownsRow (w.heap.size+3) 2 1 s' (k+1) (xs ++ [u])) (hg:W.grownBy W1 s.ownBlock) (hb:Below (w.heap.size+3) W W1):
  W1.cell? ⟨w.heap.size+2,3,none⟩=some s/\W1.frozen? ⟨w.heap.size+2,3,none⟩=false/\uh w a r c0 c1 c2 s' t (k+1) j (xs ++ [u]) ys (W1.setCell ⟨w.heap.size+2,3,none⟩ s'):=by
 have k0:=h.arg.below hb (by omega)
 have k1:=h.res.below hb (by omega)
 have k2:=h.DT.below hb (by omega)
 have o2:=Bg h.owt hg h.own (by decide)
 have hs:=grownBy_set W1 ⟨w.heap.size+2,3,none⟩ s'
 have nt: ∀{e:TypeId},e≠25-> ∀g c t fz,some (⟨w.heap.size+2,3,none⟩:Addr).block=some g->W1.heap[g]?=some (.cells c t fz)->t≠e:=fun he g c t fz e hc=>by
  cases e;unfold aj at k2;rw [k2] at hc;cases hc;exact Ne.symm he
 refine ⟨k2.cell 3,k2.frozen 3,k0.far (by simp) _,k1.far (by simp) _,aj.cast (k2.aS 3 s') (by simp),dS ho hs (nt (by decide)),dS o2 hs (nt (by decide)), ?_, ?_⟩
 ·exact (h.bel.trans (hb.mono (by omega))).setCell (p:=⟨w.heap.size+2,3,none⟩) (by simp) _
 have:=h.big;have:=hb.size;simp;omega
theorem uh.txt {w:World} {a r:Array Value} {c0 c1 c2 s t:Value} {k j:Nat} {xs ys:List Value} {W W1:World} {t' u:Value} (h:uh w a r c0 c1 c2 s t k j xs ys W)
  (ho:W1.ownsRow (w.heap.size+3) 9 1 t' (j+1) (ys ++ [u])) (hg:W.grownBy W1 t.ownBlock) (hb:Below (w.heap.size+3) W W1):
  W1.cell? ⟨w.heap.size+2,4,none⟩=some t/\W1.frozen? ⟨w.heap.size+2,4,none⟩=false/\uh w a r c0 c1 c2 s t' k (j+1) xs (ys ++ [u]) (W1.setCell ⟨w.heap.size+2,4,none⟩ t'):=by
 have k0:=h.arg.below hb (by omega)
 have k1:=h.res.below hb (by omega)
 have k2:=h.DT.below hb (by omega)
 have o2:=Bg h.own hg h.owt (by decide)
 have hs:=grownBy_set W1 ⟨w.heap.size+2,4,none⟩ t'
 have nt: ∀{e:TypeId},e≠25-> ∀g c t fz,some (⟨w.heap.size+2,4,none⟩:Addr).block=some g->W1.heap[g]?=some (.cells c t fz)->t≠e:=fun he g c t fz e hc=>by
  cases e;unfold aj at k2;rw [k2] at hc;cases hc;exact Ne.symm he
 refine ⟨k2.cell 4,k2.frozen 4,k0.far (by simp) _,k1.far (by simp) _,aj.cast (k2.aS 4 t') (by simp),dS o2 hs (nt (by decide)),dS ho hs (nt (by decide)), ?_, ?_⟩
 ·exact (h.bel.trans (hb.mono (by omega))).setCell (p:=⟨w.heap.size+2,4,none⟩) (by simp) _
 have:=h.big;have:=hb.size;simp;omega
theorem agt (B:Nat) (u:Value) (v:ak.V) (w:World) (h:jR w B u v) (hB:B<=w.heap.size):
  Calls Tryz.prog 14 #[u] w fun e w'=> ∃u',e= .returned u'/\rQ w' w.heap.size u' v/\Below w.heap.size w w':=by
 obtain ⟨A1,c1,A2,c2,rfl,cO,bP⟩:=h.ex;have hnl:=h.nl;have hsl:=h.sl;clear h
 obtain ⟨k0,n0,t0,ns,ts⟩:=v;simp only at cO bP hnl hsl⊢
 obtain ⟨nn,hnn⟩: ∃n,ns.length=n:=⟨_,rfl⟩;obtain ⟨tn,htn⟩: ∃n,ts.length=n:=⟨_,rfl⟩
 obtain ⟨z,hz⟩: ∃z:ByteArray,(⟨t0.toArray⟩:ByteArray)=z:=⟨_,rfl⟩;rw [hnn] at cO hnl⊢
 rw [htn] at bP hsl⊢;rw [hz]
 have hres: ∀w' s t,Below w.heap.size w w'->w'.ownsRow (w.heap.size+3) 2 1 s nn (ns.map I64)->w'.ownsRow (w.heap.size+3) 9 1 t tn (ts.map ST)->rQ w' w.heap.size (.agg #[.int .i64 k0, .int .i64 n0, .string z,s,t]) ⟨k0,n0,t0,ns,ts⟩:=fun w' s t _ h1 h2=>by
  refine ⟨s,t,by rw [<-hz], ?_, ?_⟩
  ·rw [hnn];exact jX h1 (by omega)
  rw [htn];exact jX h2 (by omega)
 obtain ⟨W1,hW1⟩: ∃W1,((w.alloc (.cells #[.int .i64 k0, .int .i64 n0, .string z, .slice A1 nn c1, .slice A2 tn c2] 25)).alloc (.cells #[.int .i64 0, .int .i64 0, .string ⟨#[]⟩, .slice none 0 0, .slice none 0 0] 25)).alloc (.cells #[.int .i64 k0, .int .i64 n0, .string z, .slice none 0 0, .slice none 0 0] 25)=W1:=⟨_,rfl⟩
 have hcp:uh w #[.int .i64 k0, .int .i64 n0, .string z, .slice A1 nn c1, .slice A2 tn c2] #[.int .i64 0, .int .i64 0, .string ⟨#[]⟩, .slice none 0 0, .slice none 0 0] (.int .i64 k0) (.int .i64 n0) (.string z) (.slice none 0 0) (.slice none 0 0) 0 0 [] [] W1:=by
  rw [<-hW1]
  refine ⟨((aj.new _ _ _).alloc _).alloc _, ?_, ?_,World.ownsRow_nil _ _ _ _,World.ownsRow_nil _ _ _ _,(((Below.refl _ w).alloc (ab1 _) _).alloc (by simp) _).alloc (by simp;omega) _,by simp⟩
  ·have:=(aj.new (w.alloc (.cells #[.int .i64 k0, .int .i64 n0, .string z, .slice A1 nn c1, .slice A2 tn c2] 25)) 25 #[.int .i64 0, .int .i64 0, .string ⟨#[]⟩, .slice none 0 0, .slice none 0 0]).alloc (.cells #[.int .i64 k0, .int .i64 n0, .string z, .slice none 0 0, .slice none 0 0] 25)
   simpa using this
  have:=aj.new ((w.alloc (.cells #[.int .i64 k0, .int .i64 n0, .string z, .slice A1 nn c1, .slice A2 tn c2] 25)).alloc (.cells #[.int .i64 0, .int .i64 0, .string ⟨#[]⟩, .slice none 0 0, .slice none 0 0] 25)) 25 #[.int .i64 k0, .int .i64 n0, .string z, .slice none 0 0, .slice none 0 0]
  simpa using this
 have xX:=ah cO;have xY:=ah bP;have bQ:=ah hcp;have HW1:=ah hW1;have pO:=ah hres
 have ay:=ah hnn;have aI:=ah htn;clear cO bP hnn htn hz hcp hW1 hres
 go_enter Tryz.func14,Tryz.ntmps14;go_wp2_with fail;rw [HW1.out];clear HW1
 go_loopg [4] nn (fun g x wr=> ∃(k:Nat) (s:Value),x= .int .i64 k/\k+g=nn/\uh w #[.int .i64 k0, .int .i64 n0, .string z, .slice A1 nn c1, .slice A2 tn c2] #[.int .i64 0, .int .i64 0, .string ⟨#[]⟩, .slice none 0 0, .slice none 0 0] (.int .i64 k0) (.int .i64 n0) (.string z) s (.slice none 0 0) k 0 ((ns.take k).map I64) [] wr)
 case atStart=>exact ⟨0,_,rfl,by omega,bQ.out⟩
 obtain ⟨k,s,rfl,hk,hrel⟩:=hrel;have qQ:(k:Int)<=1073741824:=by omega
 have HK:=ah hk;have HR:=ah hrel;have hbig:=hrel.big;obtain ⟨As,cs,rfl⟩:=aJ hrel.own
 obtain ⟨a0,a1,a2,a3,a4,-⟩:=gY hrel.arg;obtain ⟨b0,b1,b2,b3,b4,-,-,-,f3,f4⟩:=gY hrel.DT
 cases gk with
 | zero=>
  obtain rfl:k=nn:=by omega
  have hfull:(ns.take k).map I64=ns.map I64:=by rw [acg (by have:=ay.out;omega)]
  rw [hfull] at hrel;have HR2:=ah hrel;clear hk hrel hfull HR b0 b1 b2 b3 b4 f3 f4
  go_wp2_with fail;clear a0 a1 a2 a3 a4
  go_loopg [5] tn (fun g x wr=> ∃(j:Nat) (t:Value),x= .int .i64 j/\j+g=tn/\uh w #[.int .i64 k0, .int .i64 n0, .string z, .slice A1 k c1, .slice A2 tn c2] #[.int .i64 0, .int .i64 0, .string ⟨#[]⟩, .slice none 0 0, .slice none 0 0] (.int .i64 k0) (.int .i64 n0) (.string z) (.slice As k cs) t k j (ns.map I64) ((ts.take j).map ST) wr)
  case atStart=>exact ⟨0,_,rfl,by omega,HR2.out⟩
  obtain ⟨j,t,rfl,hj,hrel⟩:=hrel;have lT:(j:Int)<=1073741824:=by omega
  have HJ:=ah hj;have HR:=ah hrel;have hbig:=hrel.big;obtain ⟨At,ct,rfl⟩:=aJ hrel.owt
  obtain ⟨a0,a1,a2,a3,a4,-⟩:=gY hrel.arg;obtain ⟨b0,b1,b2,b3,b4,-,-,-,f3,f4⟩:=gY hrel.DT
  obtain ⟨e0,e1,e2,e3,e4,g0,g1,g2,g3,g4⟩:=gY hrel.res;cases gk with
  | zero=>
   obtain rfl:j=tn:=by omega
   have hfull:(ts.take j).map ST=ts.map ST:=by rw [acg (by have:=aI.out;omega)]
   rw [hfull] at hrel;have HR3:=ah hrel;clear hj hrel hfull HR;go_wp2
   have hb:=(QD HR3.out.res (.int .i64 k0) (.int .i64 n0) (.string z) (.slice As k cs) (.slice At j ct))
   have hon:=QE wr (w.heap.size+1) (.int .i64 k0) (.int .i64 n0) (.string z) (.slice As k cs) (.slice At j ct)
   have hB3:=HR3.out.res
   have nt: ∀{e:TypeId},e≠25-> ∀g c t fz,some (w.heap.size+1)=some g->wr.heap[g]?=some (.cells c t fz)->t≠e:=fun he g c t fz e hc=>by
    cases e;unfold aj at hB3;rw [hB3] at hc;cases hc;exact Ne.symm he
   refine ret_val Tryz.results14 rfl hb ⟨_,rfl,pO.out _ _ _ ?_ (dS HR3.out.own hon (nt (by decide))) (dS HR3.out.owt hon (nt (by decide))), ?_⟩
   ·exact HR3.out.bel.grown hon HR3.out.bel.size (fun j e=>by cases e;omega)
   exact HR3.out.bel.grown hon HR3.out.bel.size (fun j e=>by cases e;omega)
  | succ g=>
   have hjn:j<tn:=by omega
   have DU:(j:Int)<tn:=by omega
   have hjl:j<ts.length:=by rw [aI.out];exact hjn
   obtain ⟨p,o,x,rfl,pU,hx,hp⟩:=xY.out.cell hjn;rw [acJ,ab2 hjl] at hx
   obtain rfl:=(acE hx).symm;obtain ⟨y,hy⟩: ∃y,ts[j]=y:=⟨_,rfl⟩;rw [hy] at hp
   have htk:(ts.take (j+1)).map ST=(ts.take j).map ST ++ [ST y]:=by rw [aer hjl,ade,hy];rfl
   have iD:=ah htk;have hp':=(hrel.bel.cell (p:=⟨p,o+j,none⟩) (adf pU hB)).trans hp
   unfold ST at hp';have HD:=ah hrel.drew
   obtain ⟨zy,hzy⟩: ∃z:ByteArray,(⟨y.toArray⟩:ByteArray)=z:=⟨_,rfl⟩;rw [hzy] at hp'
   have la4:=(hrel.arg.alloc (.cells #[.string zy] 9)).cell 4
   have lb4:=(hrel.DT.alloc (.cells #[.string zy] 9)).cell 4
   have lp:=(((Below.refl wr.heap.size wr).alloc (ab1 _) (.cells #[.string zy] 9)).cell (Ie hp')).trans hp'
   simp at la4 lb4;have Gi:=ah hzy
   clear hx hj hjl hy htk hrel hp e0 e1 e2 e3 e4 g0 g1 g2 g3 g4 hzy;go_wp2_with fail
   go_region_law (refine MN rfl (.tmp 38) (.tmp 44) 23 9 (.string ⟨#[]⟩) 16 Tryz.underlying23 Fq rfl (by decide) rfl (w.heap.size+3) (.slice At j ct) j _ wr.drew rfl HD.out.owt (.string zy) rfl rfl (by omega) hbig ?_;intro v1 w1 hown1 mW _ eH;obtain ⟨A9,c9,rfl⟩:=aJ hown1;obtain ⟨d3,Ua,hnx⟩:=HD.out.txt hown1 mW eH)
   all_goals
    have iC:=ah hnx;clear hown1 mW eH d3 Ua hnx;go_wp2
    go_roundg g
    case measure=>omega
    exact ⟨j+1,_,int_eq' (by omega),by have:=HJ.out;omega,by rw [iD.out];unfold ST;rw [Gi.out];exact iC.out⟩
 | succ g=>
  have hkn:k<nn:=by omega
  have dD:(k:Int)<nn:=by omega
  have hkl:k<ns.length:=by rw [ay.out];exact hkn
  obtain ⟨p,o,x,rfl,pU,hx,hp⟩:=xX.out.cell hkn;rw [acJ,ab2 hkl] at hx
  obtain rfl:=(acE hx).symm;obtain ⟨y,hy⟩: ∃y,ns[k]=y:=⟨_,rfl⟩;rw [hy] at hp
  have htk:(ns.take (k+1)).map I64=(ns.take k).map I64 ++ [I64 y]:=by rw [aer hkl,ade,hy];rfl
  have iD:=ah htk;have hp':=(hrel.bel.cell (p:=⟨p,o+k,none⟩) (adf pU hB)).trans hp
  unfold I64 at hp';have HD:=ah hrel.drew
  have la3:=(hrel.arg.alloc (.cells #[.int .i64 y] 2)).cell 3
  have lb3:=(hrel.DT.alloc (.cells #[.int .i64 y] 2)).cell 3
  have lp:=(((Below.refl wr.heap.size wr).alloc (ab1 _) (.cells #[.int .i64 y] 2)).cell (Ie hp')).trans hp'
  simp at la3 lb3;clear hx hk hkl hy htk hrel hp;go_wp2_with fail
  go_region_law (refine MN rfl (.tmp 21) (.tmp 27) 22 2 (.int .i64 0) 8 Tryz.underlying22 Yv rfl (by decide) rfl (w.heap.size+3) (.slice As k cs) k _ wr.drew rfl HD.out.own (.int .i64 y) rfl rfl (by omega) hbig ?_;intro v1 w1 hown1 mW _ eH;obtain ⟨A9,c9,rfl⟩:=aJ hown1;obtain ⟨d3,Ua,hnx⟩:=HD.out.num hown1 mW eH)
  all_goals
   have iC:=ah hnx;clear hown1 mW eH d3 Ua hnx;go_wp2
   go_roundg g
   case measure=>omega
   exact ⟨k+1,_,int_eq' (by omega),by have:=HK.out;omega,by rw [iD.out];exact iC.out⟩
end Go.Proofs.YtoofbflplhbpbaaGreatDoor
