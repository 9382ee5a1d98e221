/- Contracts and plain laws,part 43. -/
import Derived.Test.YtoofbflplhbpbaaGreatDoorUO41
set_option maxHeartbeats 64000000
set_option maxRecDepth 1000000
set_option linter.all false
namespace Go.Proofs.YtoofbflplhbpbaaGreatDoor
open Go.RowKit
theorem abN {l:List (List UInt8)} {k:Nat} {x:List UInt8} (h:l[k]?=some x):(l.take (k+1)).flatten=(l.take k).flatten ++ x:=by
 rw [adZ,h];simp
theorem abO (l:List (List UInt8)) (k:Nat):(l.take k).flatten.length<=l.flatten.length:=by
 conv=>rhs;rw [<-adE k l,amY,dA]
 omega
theorem abP (g:Gr.G):(fZ g).flatten=(Cy.lC g).1/\(Cy.lC g).2=(Gr.check g).1:=by
 unfold fZ Cy.lC Cy.print;by_cases h:(Gr.check g).1=0
 ·rw [ab7 h,ab7 h];exact ⟨rfl,h.symm⟩
 rw [ab6 h,ab6 h];exact ⟨rfl,rfl⟩
theorem ajY {g:Gr.G} (ok:xZ g):(Cy.lC g).1.length<=8388608:=by
 unfold Cy.lC
 split
 ·rename_i h;exact TD (Gr.xJ.1 h) ok
 simp
theorem abQ (B:Nat) (u:Value) (g:Gr.G) (w:World) (h:fE w B u g) (hB:B<=w.heap.size):
  Calls Tryz.prog 21 #[u] w fun e w'=>e= .returned (.tuple #[.string ⟨(Cy.lC g).1.toArray⟩, .int .i64 ((Cy.lC g).2:Nat)])/\Below w.heap.size w w':=by
 have hok:=h.ok
 have lX:=ah (fun (V:World) (hb:Below w.heap.size w V)=>TQ B u g V (h.below (hb.mono hB)) (ab5 hB hb.size))
 obtain ⟨An,cn,Ar,cr,rfl⟩:=h.form (a:=g.nodes.length) (b:=g.au.length) rfl rfl
 obtain ⟨nn,hnn⟩: ∃n,g.nodes.length=n:=⟨_,rfl⟩;obtain ⟨rn,hrn⟩: ∃n,g.au.length=n:=⟨_,rfl⟩
 rw [hnn,hrn] at lX⊢;have hpl:=abP g;have hln:=ajY hok
 obtain ⟨E,hE⟩: ∃E,(Gr.check g).1=E:=⟨_,rfl⟩;obtain ⟨m,hm⟩: ∃m,(fZ g).length=m:=⟨_,rfl⟩
 have hmb:m<=4294967296:=by
  rw [<-hm];unfold fZ Cy.lines
  split
  ·rw [dA,ace,ace];have:=hok.nl;have:=hok.rl;omega
  simp
 rw [hpl.2,hE];obtain ⟨R,hR⟩: ∃z:ByteArray,(⟨(Cy.lC g).1.toArray⟩:ByteArray)=z:=⟨_,rfl⟩
 rw [hR];have iP:=ah hpl.1;have HR:=ah hR;have dF:=ah hln;have HM:=ah (And.intro hm hE)
 have HB1:=ah (show Below w.heap.size w (w.alloc (.cells #[.slice An nn cn, .slice Ar rn cr] 39)) from (Below.refl _ w).alloc (ab1 _) _)
 have aT:=ah (aj.new w 39 #[.slice An nn cn, .slice Ar rn cr])
 obtain ⟨W1,hW1⟩: ∃x,w.alloc (.cells #[.slice An nn cn, .slice Ar rn cr] 39)=x:=⟨_,rfl⟩
 rw [hW1] at HB1 aT;have HW1:=ah hW1;have BQ:(m:Int)<=4294967296:=by omega
 clear h hok hnn hrn hpl hln hE hm hR hW1 hmb;go_enter Tryz.func21,Tryz.ntmps21
 go_upto_region 1 with fail
 rw [HW1.out];clear HW1;obtain ⟨c0,c1⟩:=cells2 aT.out;have oV:=lX.out W1 HB1.out
 have Py:=ah oV;clear oV lX;go_wp2_with fail;refine Py.out.mono ?_
 rintro e w2 ⟨A2,c2,rfl,o2,b2⟩;rw [HM.out.1] at o2⊢;rw [HM.out.2]
 have HB2:=ah (HB1.out.trans (b2.mono HB1.out.size))
 have lU:=ah (show Reads w2 w2.heap.size 1 A2 m ((fZ g).map ST) from Reads.je o2)
 have Xk:=ah (show fA w2.heap.size (.slice (some ⟨w2.heap.size,0,none⟩) 0 0) [] (w2.alloc (.cells #[] 5)) from ⟨w2.heap.size,0,#[],(0,0),rfl,ab1 _,heap_alloc_new w2 _, .inl (ab1 _),ab1 _,by unfold maxLen;omega,rfl,rfl⟩)
 have aH:=ah (show Below w2.heap.size w2 (w2.alloc (.cells #[] 5)) from (Below.refl _ w2).alloc (ab1 _) _)
 clear o2 b2 c0 c1 Py;go_wp2_with fail
 go_loopg [6,7] m (fun q s x wr=> ∃(k n:Nat) (A:Option Addr) (c:Nat) (l:List UInt8),s= .slice A n c/\x= .int .i64 k/\k+q=m/\Hid (l.length=n/\l=((fZ g).take k).flatten/\fA w2.heap.size (.slice A n c) l wr/\Below w2.heap.size w2 wr))
 case atStart=>exact ⟨0,0,_,_, [],rfl,rfl,by omega,rfl,rfl,Xk.out,aH.out⟩
 obtain ⟨k,n,A,c,l,rfl,rfl,hk,hs⟩:=hrel
 have HS:Hid (l.length=n/\l=((fZ g).take k).flatten/\fA w2.heap.size (.slice A n c) l wr/\Below w2.heap.size w2 wr):=hs
 clear hs;cases gk with
 | zero=>
  obtain rfl:k=m:=by omega
  have hf:(fZ g).take k=fZ g:=acg (by rw [HM.out.1];exact ab1 _)
  have hcv:=HS.out.2.2.1.conv
  have hl:(⟨l.toArray⟩:ByteArray)=R:=by rw [HS.out.2.1,hf,iP.out,HR.out]
  rw [hl] at hcv;have kJ:=ah (HB2.out.trans (HS.out.2.2.2.mono HB2.out.size))
  clear hk hf hl;go_wp2
  go_ret2
  exact ⟨rfl,kJ.out⟩
 | succ q=>
  have hkn:k<m:=by omega
  have dD:(k:Int)<m:=by omega
  have pk:(0:Int)<=(k:Int):=by omega
  have tk:((k:Int)).toNat=k:=by omega
  obtain ⟨p,o,x,rfl,-,hx,hp⟩:=(lU.out.below HS.out.2.2.2).cell hkn;rw [acJ] at hx
  obtain ⟨y,hy,rfl⟩:=ac7.1 hx;unfold ST at hp
  obtain ⟨z,hz⟩: ∃z:ByteArray,(⟨y.toArray⟩:ByteArray)=z:=⟨_,rfl⟩;rw [hz] at hp
  have hft:=abN hy
  have hzl:l.length+z.size<1073741824:=by
   have h1:=abO (fZ g) (k+1);rw [hft,dA,<-HS.out.2.1,iP.out] at h1;have h2:=dF.out
   rw [<-hz,bf];omega
  have iC:=ah (show l ++ z.data.toList=((fZ g).take (k+1)).flatten by rw [hft,<-HS.out.2.1,<-hz])
  have HK:=ah hk;have lN:=ah hzl;clear hkn hx hy hz hft hzl hk
  go_wp2_with (at_builtin;refine abE rfl (.tmp 20) (.tmp 24) rfl w2.heap.size (.slice A n c) l wr rfl HS.out.2.2.1 z rfl lN.out HS.out.2.2.2.size ?_)
  intro v5 w5 tN hb5;obtain ⟨A5,c5,hv5⟩:=tN.form
  obtain ⟨n5,yD⟩: ∃n5,(l ++ z.data.toList).length=n5:=⟨_,rfl⟩;rw [yD] at hv5;subst hv5
  have HF:=ah (show (l ++ z.data.toList).length=n5/\(l ++ z.data.toList)=((fZ g).take (k+1)).flatten/\fA w2.heap.size (.slice A5 n5 c5) (l ++ z.data.toList) w5/\Below w2.heap.size w2 w5 from ⟨yD,iC.out,tN,HS.out.2.2.2.trans hb5⟩)
  clear tN hb5 yD hp;go_wp2
  go_roundg q
  case measure=>omega
  exact ⟨k+1,n5,A5,c5,_,rfl,int_eq (by omega),by have:=HK.out;omega,HF.out⟩
end Go.Proofs.YtoofbflplhbpbaaGreatDoor
