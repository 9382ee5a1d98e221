/- Contracts and plain laws,part 31. -/
import Derived.Test.YtoofbflplhbpbaaGreatDoorBK21
import Derived.Test.YtoofbflplhbpbaaGreatDoorBK30
set_option maxHeartbeats 64000000
set_option maxRecDepth 1000000
set_option linter.all false
namespace Go.Proofs.YtoofbflplhbpbaaGreatDoor
open Go.RowKit Go.Sort
abbrev Sl:=Option Addr×Nat×Nat
def slv (s:Sl):Value:= .slice s.1 s.2.1 s.2.2
abbrev EN:=Int×Sl×Sl
def jw (x:EN):List Value:= [.int .i64 x.1,slv x.2.1,slv x.2.2]
def kN:Go.Shelf.Ren:=⟨fun n=>n,fun t=>t,fun g=>g⟩
theorem DR:StbG.gY Tryz.prog kN 3:=by
 constructor<;> first | kernel_rfl |(intro w;kernel_rfl)
theorem fN0:Stb.Bd Tryz.prog kN 291 Tryz.f291:=⟨Tryz.f291.name,Tryz.f291.targs,Tryz.f291.params,Tryz.f291.resultTypes,by decide,Tryz.func291.trans (by kernel_rfl)⟩
theorem fN1:Stb.Bd Tryz.prog kN 265 Tryz.f265:=⟨Tryz.f265.name,Tryz.f265.targs,Tryz.f265.params,Tryz.f265.resultTypes,by decide,Tryz.func265.trans (by kernel_rfl)⟩
theorem fN2:Stb.Bd Tryz.prog kN 219 Tryz.f219:=⟨Tryz.f219.name,Tryz.f219.targs,Tryz.f219.params,Tryz.f219.resultTypes,by decide,Tryz.func219.trans (by kernel_rfl)⟩
theorem fN3:Bears Tryz.prog (kN.f 218) (SlBodyF.n20 (StbG.ren kN)):=⟨Tryz.f218.name,by decide,Tryz.func218.trans (by kernel_rfl)⟩
theorem fN4:Stb.Bd Tryz.prog kN 154 Tryz.f154:=⟨Tryz.f154.name,Tryz.f154.targs,Tryz.f154.params,Tryz.f154.resultTypes,by decide,Tryz.func154.trans (by kernel_rfl)⟩
theorem fN5:Stb.Bd Tryz.prog kN 98 Tryz.f98:=⟨Tryz.f98.name,Tryz.f98.targs,Tryz.f98.params,Tryz.f98.resultTypes,by decide,Tryz.func98.trans (by kernel_rfl)⟩
theorem Na (x y:EN) (W:World):Calls Tryz.prog 99 (#[.agg (jw x).toArray, .agg (jw y).toArray] ++ #[]) W fun e w'=>e= .returned (.int .i64 (Lib.compareInt x.1 y.1))∧ ∃q os',w'=grow (W.drewN q) os':=by
 obtain ⟨xi,⟨xa,xn,xc⟩,ya,yn,yc⟩:=x
 obtain ⟨yi,⟨za,zn,zc⟩,va,vn,vc⟩:=y
 simp only [jw,slv,List.append_toArray,List.append_nil,List.cons_append,List.nil_append]
 have hc:=fun V=>Tryz.cmp_Compare_int xi yi V
 have HC:=hq7 hc
 clear hc
 go_enter Tryz.func99,Tryz.ntmps99
 go_wp2_with fail
 refine (HC.out _).mono ?_
 rintro e w' ⟨rfl,rfl⟩
 go_wp2
 go_ret
 exact ⟨rfl,0,#[_,_],by rw [alloc_eq_grow,alloc_eq_grow,grow_grow];rfl⟩
def leI {α:Type} (x y:Int×α):Bool:=decide (x.1≤y.1)
theorem DT {α:Type}:Stb.Tot (leI (α:=α)):=⟨fun h1 h2=>by unfold leI at*;simp only [decide_eq_true_eq] at*;omega,fun h=>by unfold leI at*;simp only [decide_eq_true_eq,decide_eq_false_iff_not] at*;omega⟩
theorem cfI {α:Type} (x y:Int×α):ltOf (fun x y:Int×α=>Lib.compareInt x.1 y.1) x y= !leI y x:=by
 unfold ltOf leI Lib.compareInt
 rcases Int.lt_trichotomy x.1 y.1 with h | h | h
 ·have h2: ¬y.1≤x.1:=by omega
  simp [h]
 ·simp [h]
 ·have h2: ¬x.1<y.1:=by omega
  have h3:y.1≤x.1:=by omega
  simp [h,h2,h3]
theorem Nb {g cap n:Nat} {d:Array EN} {w:World} (R:RowK jw 3 w g 0 d) (hn:d.size=n) (hsz:n≤1073741824):
  Calls Tryz.prog 98 #[.slice (some ⟨g,0,none⟩) n cap, .func (.func 99) #[] #[]] w fun e w'=>e= .returned (.tuple #[])∧ ∃d',d'.size=n∧SWK jw 3 w g 0 d' w'∧Stb.Srt leI d'.toList∧d'.toList.Perm d.toList:=
 StbG.vT DR fN0 fN1 fN2 fN3 fN4 fN5 DT cfI (enters_of Tryz.func99 (by kernel_rfl) rfl) (fun m os dk _ x y=>Na x y _) R hn (by omega)
theorem Nh (p:Option Addr) (cap:Nat) (fv:Value) (w:World):Calls Tryz.prog 98 #[.slice p 0 cap,fv] w fun e w'=>e= .returned (.tuple #[])∧w'=w:=StbG.vU DR fN3 fN4 fN5 p cap fv w
abbrev ER:=Int×List UInt8×Int×Int×Sl
def encR (x:ER):List Value:= [.int .i64 x.1,ST x.2.1, .int .i64 x.2.2.1, .int .i64 x.2.2.2.1,slv x.2.2.2.2]
def kP:Go.Shelf.Ren:=⟨fun n=>if n=291 then 292 else if n=265 then 266 else if n=219 then 221 else if n=218 then 220 else if n=154 then 156 else if n=98 then 101 else n,fun t=>if t=59 then 63 else if t=36 then 37 else if t=162 then 164 else t,fun g=>g⟩
theorem DU:StbG.gY Tryz.prog kP 5:=by
 constructor<;> first | kernel_rfl |(intro w;kernel_rfl)
theorem fR0:Stb.Bd Tryz.prog kP 291 Tryz.f291:=⟨Tryz.f292.name,Tryz.f292.targs,Tryz.f292.params,Tryz.f292.resultTypes,by decide,Tryz.func292.trans (by kernel_rfl)⟩
theorem fR1:Stb.Bd Tryz.prog kP 265 Tryz.f265:=⟨Tryz.f266.name,Tryz.f266.targs,Tryz.f266.params,Tryz.f266.resultTypes,by decide,Tryz.func266.trans (by kernel_rfl)⟩
theorem fR2:Stb.Bd Tryz.prog kP 219 Tryz.f219:=⟨Tryz.f221.name,Tryz.f221.targs,Tryz.f221.params,Tryz.f221.resultTypes,by decide,Tryz.func221.trans (by kernel_rfl)⟩
theorem fR3:Bears Tryz.prog (kP.f 218) (SlBodyF.n20 (StbG.ren kP)):=⟨Tryz.f220.name,by decide,Tryz.func220.trans (by kernel_rfl)⟩
theorem fR4:Stb.Bd Tryz.prog kP 154 Tryz.f154:=⟨Tryz.f156.name,Tryz.f156.targs,Tryz.f156.params,Tryz.f156.resultTypes,by decide,Tryz.func156.trans (by kernel_rfl)⟩
theorem fR5:Stb.Bd Tryz.prog kP 98 Tryz.f98:=⟨Tryz.f101.name,Tryz.f101.targs,Tryz.f101.params,Tryz.f101.resultTypes,by decide,Tryz.func101.trans (by kernel_rfl)⟩
theorem Nj (x y:ER) (W:World):Calls Tryz.prog 102 (#[.agg (encR x).toArray, .agg (encR y).toArray] ++ #[]) W fun e w'=>e= .returned (.int .i64 (Lib.compareInt x.1 y.1))∧ ∃q os',w'=grow (W.drewN q) os':=by
 obtain ⟨xi,xt,xs,xd,xa,xn,xc⟩:=x
 obtain ⟨yi,yt,ys,yd,ya,yn,yc⟩:=y
 simp only [encR,slv,ST,List.append_toArray,List.append_nil,List.cons_append,List.nil_append]
 have hc:=fun V=>Tryz.cmp_Compare_int xi yi V
 have HC:=hq7 hc
 clear hc
 obtain ⟨z1,hz1⟩: ∃z:ByteArray,(⟨xt.toArray⟩:ByteArray)=z:=⟨_,rfl⟩
 obtain ⟨z2,hz2⟩: ∃z:ByteArray,(⟨yt.toArray⟩:ByteArray)=z:=⟨_,rfl⟩
 rw [hz1,hz2]
 clear hz1 hz2
 go_enter Tryz.func102,Tryz.ntmps102
 go_wp2_with fail
 refine (HC.out _).mono ?_
 rintro e w' ⟨rfl,rfl⟩
 go_wp2
 go_ret
 exact ⟨rfl,0,#[_,_],by rw [alloc_eq_grow,alloc_eq_grow,grow_grow];rfl⟩
theorem Nk {g cap n:Nat} {d:Array ER} {w:World} (R:RowK encR 5 w g 0 d) (hn:d.size=n) (hsz:n≤1073741824):
  Calls Tryz.prog 101 #[.slice (some ⟨g,0,none⟩) n cap, .func (.func 102) #[] #[]] w fun e w'=>e= .returned (.tuple #[])∧ ∃d',d'.size=n∧SWK encR 5 w g 0 d' w'∧Stb.Srt leI d'.toList∧d'.toList.Perm d.toList:=
 StbG.vT DU fR0 fR1 fR2 fR3 fR4 fR5 DT cfI (enters_of Tryz.func102 (by kernel_rfl) rfl) (fun m os dk _ x y=>Nj x y _) R hn (by omega)
theorem Nl (p:Option Addr) (cap:Nat) (fv:Value) (w:World):Calls Tryz.prog 101 #[.slice p 0 cap,fv] w fun e w'=>e= .returned (.tuple #[])∧w'=w:=StbG.vU DU fR3 fR4 fR5 p cap fv w
abbrev EP:=List UInt8×Int×Int×List UInt8×Sl×Sl
def iK (x:EP):List Value:= [ST x.1, .int .i64 x.2.1, .int .i64 x.2.2.1,ST x.2.2.2.1,slv x.2.2.2.2.1,slv x.2.2.2.2.2]
def kQ:Go.Shelf.Ren:=⟨fun n=>if n=291 then 299 else if n=265 then 290 else if n=219 then 263 else if n=218 then 262 else if n=154 then 216 else if n=98 then 151 else n,fun t=>if t=59 then 61 else if t=36 then 57 else if t=162 then 218 else t,fun g=>g⟩
theorem DV:StbG.gY Tryz.prog kQ 6:=by
 constructor<;> first | kernel_rfl |(intro w;kernel_rfl)
theorem fP0:Stb.Bd Tryz.prog kQ 291 Tryz.f291:=⟨Tryz.f299.name,Tryz.f299.targs,Tryz.f299.params,Tryz.f299.resultTypes,by decide,Tryz.func299.trans (by kernel_rfl)⟩
theorem fP1:Stb.Bd Tryz.prog kQ 265 Tryz.f265:=⟨Tryz.f290.name,Tryz.f290.targs,Tryz.f290.params,Tryz.f290.resultTypes,by decide,Tryz.func290.trans (by kernel_rfl)⟩
theorem fP2:Stb.Bd Tryz.prog kQ 219 Tryz.f219:=⟨Tryz.f263.name,Tryz.f263.targs,Tryz.f263.params,Tryz.f263.resultTypes,by decide,Tryz.func263.trans (by kernel_rfl)⟩
theorem fP3:Bears Tryz.prog (kQ.f 218) (SlBodyF.n20 (StbG.ren kQ)):=⟨Tryz.f262.name,by decide,Tryz.func262.trans (by kernel_rfl)⟩
theorem fP4:Stb.Bd Tryz.prog kQ 154 Tryz.f154:=⟨Tryz.f216.name,Tryz.f216.targs,Tryz.f216.params,Tryz.f216.resultTypes,by decide,Tryz.func216.trans (by kernel_rfl)⟩
theorem fP5:Stb.Bd Tryz.prog kQ 98 Tryz.f98:=⟨Tryz.f151.name,Tryz.f151.targs,Tryz.f151.params,Tryz.f151.resultTypes,by decide,Tryz.func151.trans (by kernel_rfl)⟩
theorem Np (x y:EP) (W:World):Calls Tryz.prog 152 (#[.agg (iK x).toArray, .agg (iK y).toArray] ++ #[]) W fun e w'=>e= .returned (.int .i64 (Lib.compareBytes x.1 y.1))∧ ∃q os',w'=grow (W.drewN q) os':=by
 obtain ⟨xk,xi,xj,xt,⟨xa,xn,xc⟩,xb,xm,xd⟩:=x
 obtain ⟨yk,yi,yj,yt,⟨ya,yn,yc⟩,yb,ym,yd⟩:=y
 simp only [iK,slv,ST,List.append_toArray,List.append_nil,List.cons_append,List.nil_append]
 have hc:=fun V=>Tryz.strings_Compare ⟨xk.toArray⟩ ⟨yk.toArray⟩ V
 simp only [List.toList_toArray] at hc
 obtain ⟨r,hr⟩: ∃r,Lib.compareBytes xk yk=r:=⟨_,rfl⟩
 rw [hr] at hc⊢
 obtain ⟨z1,hz1⟩: ∃z:ByteArray,(⟨xt.toArray⟩:ByteArray)=z:=⟨_,rfl⟩
 obtain ⟨z2,hz2⟩: ∃z:ByteArray,(⟨yt.toArray⟩:ByteArray)=z:=⟨_,rfl⟩
 obtain ⟨z3,hz3⟩: ∃z:ByteArray,(⟨xk.toArray⟩:ByteArray)=z:=⟨_,rfl⟩
 obtain ⟨z4,hz4⟩: ∃z:ByteArray,(⟨yk.toArray⟩:ByteArray)=z:=⟨_,rfl⟩
 rw [hz1,hz2,hz3,hz4]
 rw [hz3,hz4] at hc
 have HC:=hq7 hc
 clear hz1 hz2 hz3 hz4 hr hc
 go_enter Tryz.func152,Tryz.ntmps152
 go_wp2_with fail
 refine (HC.out _).mono ?_
 rintro e w' ⟨rfl,rfl⟩
 go_wp2
 go_ret
 exact ⟨rfl,0,#[_,_],by rw [alloc_eq_grow,alloc_eq_grow,grow_grow];rfl⟩
theorem DW: ∀a b:List UInt8,decide (Lib.compareBytes a b<0)=decide (a<b)
 | [], []=>rfl
 | [],_ :: _=>by simp [Lib.compareBytes]
 | _ :: _, []=>by simp [Lib.compareBytes]
 | x :: a,y :: b=>by
  unfold Lib.compareBytes
  by_cases h:x<y
  ·simp [h,List.cons_lt_cons_iff]
  ·by_cases h':y<x
   ·have hne:x≠y:=fun e=>by subst e;exact h h'
    simp [h,h',List.cons_lt_cons_iff,hne]
   ·have he:x=y:=UInt8.le_antisymm (UInt8.not_lt.1 h') (UInt8.not_lt.1 h)
    subst he
    have hi: ¬x<x:=h
    rw [if_neg hi,if_neg hi,DW a b]
    simp [List.cons_lt_cons_iff,hi]
def leP (x y:EP):Bool:=decide (x.1≤y.1)
theorem Nq:Stb.Tot leP:=⟨fun h1 h2=>vY.trans _ _ _ h1 h2,fun {a b} h=>by have:=vY.total a.1 b.1;unfold leP at*;rw [h] at this;simpa using this⟩
theorem cfP (x y:EP):ltOf (fun x y:EP=>Lib.compareBytes x.1 y.1) x y= !leP y x:=by
 unfold ltOf leP
 rw [DW]
 by_cases h:x.1<y.1
 ·have h2: ¬y.1≤x.1:=List.not_le.2 h
  simp [h,h2]
 ·have h2:y.1≤x.1:=List.not_lt.1 h
  simp [h,h2]
theorem Nr {g cap n:Nat} {d:Array EP} {w:World} (R:RowK iK 6 w g 0 d) (hn:d.size=n) (hsz:n≤1073741824):
  Calls Tryz.prog 151 #[.slice (some ⟨g,0,none⟩) n cap, .func (.func 152) #[] #[]] w fun e w'=>e= .returned (.tuple #[])∧ ∃d',d'.size=n∧SWK iK 6 w g 0 d' w'∧Stb.Srt leP d'.toList∧d'.toList.Perm d.toList:=
 StbG.vT DV fP0 fP1 fP2 fP3 fP4 fP5 Nq cfP (enters_of Tryz.func152 (by kernel_rfl) rfl) (fun m os dk _ x y=>Np x y _) R hn (by omega)
theorem Ns (p:Option Addr) (cap:Nat) (fv:Value) (w:World):Calls Tryz.prog 151 #[.slice p 0 cap,fv] w fun e w'=>e= .returned (.tuple #[])∧w'=w:=StbG.vU DV fP3 fP4 fP5 p cap fv w
end Go.Proofs.YtoofbflplhbpbaaGreatDoor
namespace Go.Proofs.YtoofbflplhbpbaaGreatDoor
open Go.RowKit
theorem gZ (w:World) (e:TypeId) (size:Nat):(w.alloc (.cells #[] e)).ownsRow w.heap.size e size (.slice (some ⟨w.heap.size,0,none⟩) 0 0) 0 []:=
 ⟨by simp, .inr ⟨w.heap.size,0,#[],rfl,Nat.le_refl _,heap_alloc_new w _,by simp,by simp,by simp,by simp⟩⟩
theorem Nu:(Tryz.prog.info? 5).map (fun i=>(i.zero,i.size,i.bytes))=some (some (.int .u8 0),1,1):=by kernel_rfl
theorem Nv (B:Nat) (A:Option Addr) (c n:Nat) (news:List Value) (w:World) (h:Reads w B 1 A n news) (h1: ∀u∈news,u.oneCell'=true) (hn:n≤1073741824) (hB:B≤w.heap.size):
  Calls Tryz.prog 287 #[.slice A n c] w fun e w'=> ∃v',e= .returned v'∧w'.ownsRow w.heap.size 5 1 v' n news∧Below w.heap.size w w':=by
 have q22: ∀(w:World) (a:Option Addr) (n c n' c':Nat),(binOp .eql 55 (.slice a n c) (.slice none n' c')).run Tryz.prog w= .ok (.bool a.isNone) w:=fun w a n c n' c'=>Lib.run_eql_slice_nil w _ _ a n c n' c' Tryz.underlying55
 cases A with
 | none=>
  obtain rfl:n=0:=by
   rcases Nat.eq_zero_or_pos n with h0 | hp
   ·exact h0
   ·obtain ⟨b,off,he,-⟩:=h.2 hp
    cases he
  obtain rfl:news= []:=List.eq_nil_of_length_eq_zero (by simpa using h.1)
  clear h hn h1
  go_enter Tryz.func287,Tryz.ntmps287
  go_wp2
  go_ret
  exact ⟨_,rfl,World.ownsRow_nil _ _ _ _,Below.refl _ _⟩
 | some a=>
  obtain ⟨i0,hi,hz0,hz1,hz2⟩:=info_parts Nu
  have HH:=hq7 (h.below ((Below.refl B w).alloc hB (.cells #[] 5)))
  have H1:=hq7 h1
  have HON:=hq7 (gZ w 5 1)
  have HL1:=hq7 (show 0+n≤maxLen by unfold maxLen;omega)
  have HL2:=hq7 (show (0+n)*1≤140737488355328 by omega)
  clear h h1 hn
  go_enter Tryz.func287,Tryz.ntmps287
  go_wp2_with (at_builtin;refine jX (w.alloc (.cells #[] 5)) rfl (.tmp 5) (.tmp 6) 55 rfl w.heap.size 5 i0 (.int .u8 0) 1 1 Tryz.underlying55 hi hz0 hz1 hz2 rfl (by decide) (.slice (some ⟨w.heap.size,0,none⟩) 0 0) 0 [] rfl HON.out B (some a) n c news rfl HH.out H1.out HL1.out HL2.out (by simp) ?_)
  intro v9 w9 hown9 hgr9 hwh9
  have HO9:=hq7 hown9
  have HB9:=hq7 (((Below.refl w.heap.size w).alloc (Nat.le_refl _) (.cells #[] 5)).grown hgr9 (by simp) (fun j e=>by cases e;exact Nat.le_refl _))
  clear hown9 hgr9 hwh9
  go_wp2
  go_ret
  exact ⟨v9,rfl,by simpa using HO9.out,HB9.out⟩
theorem Nw:(Tryz.prog.info? 2).map (fun i=>(i.zero,i.size,i.bytes))=some (some (.int .i64 0),1,8):=by kernel_rfl
theorem Ny (B:Nat) (A:Option Addr) (c n:Nat) (news:List Value) (w:World) (h:Reads w B 1 A n news) (h1: ∀u∈news,u.oneCell'=true) (hn:n≤1073741824) (hB:B≤w.heap.size):
  Calls Tryz.prog 150 #[.slice A n c] w fun e w'=> ∃v',e= .returned v'∧w'.ownsRow w.heap.size 2 1 v' n news∧Below w.heap.size w w':=by
 have q22: ∀(w:World) (a:Option Addr) (n c n' c':Nat),(binOp .eql 22 (.slice a n c) (.slice none n' c')).run Tryz.prog w= .ok (.bool a.isNone) w:=fun w a n c n' c'=>Lib.run_eql_slice_nil w _ _ a n c n' c' Tryz.underlying22
 cases A with
 | none=>
  obtain rfl:n=0:=by
   rcases Nat.eq_zero_or_pos n with h0 | hp
   ·exact h0
   ·obtain ⟨b,off,he,-⟩:=h.2 hp
    cases he
  obtain rfl:news= []:=List.eq_nil_of_length_eq_zero (by simpa using h.1)
  clear h hn h1
  go_enter Tryz.func150,Tryz.ntmps150
  go_wp2
  go_ret
  exact ⟨_,rfl,World.ownsRow_nil _ _ _ _,Below.refl _ _⟩
 | some a=>
  obtain ⟨i0,hi,hz0,hz1,hz2⟩:=info_parts Nw
  have HH:=hq7 (h.below ((Below.refl B w).alloc hB (.cells #[] 2)))
  have H1:=hq7 h1
  have HON:=hq7 (gZ w 2 1)
  have HL1:=hq7 (show 0+n≤maxLen by unfold maxLen;omega)
  have HL2:=hq7 (show (0+n)*8≤140737488355328 by omega)
  clear h h1 hn
  go_enter Tryz.func150,Tryz.ntmps150
  go_wp2_with (at_builtin;refine jX (w.alloc (.cells #[] 2)) rfl (.tmp 5) (.tmp 6) 22 rfl w.heap.size 2 i0 (.int .i64 0) 1 8 Tryz.underlying22 hi hz0 hz1 hz2 rfl (by decide) (.slice (some ⟨w.heap.size,0,none⟩) 0 0) 0 [] rfl HON.out B (some a) n c news rfl HH.out H1.out HL1.out HL2.out (by simp) ?_)
  intro v9 w9 hown9 hgr9 hwh9
  have HO9:=hq7 hown9
  have HB9:=hq7 (((Below.refl w.heap.size w).alloc (Nat.le_refl _) (.cells #[] 2)).grown hgr9 (by simp) (fun j e=>by cases e;exact Nat.le_refl _))
  clear hown9 hgr9 hwh9
  go_wp2
  go_ret
  exact ⟨v9,rfl,by simpa using HO9.out,HB9.out⟩
theorem kR:(Tryz.prog.info? 9).map (fun i=>(i.zero,i.size,i.bytes))=some (some (.string ⟨#[]⟩),1,16):=by kernel_rfl
theorem DX (B:Nat) (A:Option Addr) (c n:Nat) (news:List Value) (w:World) (h:Reads w B 1 A n news) (h1: ∀u∈news,u.oneCell'=true) (hn:n≤1073741824) (hB:B≤w.heap.size):
  Calls Tryz.prog 95 #[.slice A n c] w fun e w'=> ∃v',e= .returned v'∧w'.ownsRow w.heap.size 9 1 v' n news∧Below w.heap.size w w':=by
 have q22: ∀(w:World) (a:Option Addr) (n c n' c':Nat),(binOp .eql 23 (.slice a n c) (.slice none n' c')).run Tryz.prog w= .ok (.bool a.isNone) w:=fun w a n c n' c'=>Lib.run_eql_slice_nil w _ _ a n c n' c' Tryz.underlying23
 cases A with
 | none=>
  obtain rfl:n=0:=by
   rcases Nat.eq_zero_or_pos n with h0 | hp
   ·exact h0
   ·obtain ⟨b,off,he,-⟩:=h.2 hp
    cases he
  obtain rfl:news= []:=List.eq_nil_of_length_eq_zero (by simpa using h.1)
  clear h hn h1
  go_enter Tryz.func95,Tryz.ntmps95
  go_wp2
  go_ret
  exact ⟨_,rfl,World.ownsRow_nil _ _ _ _,Below.refl _ _⟩
 | some a=>
  obtain ⟨i0,hi,hz0,hz1,hz2⟩:=info_parts kR
  have HH:=hq7 (h.below ((Below.refl B w).alloc hB (.cells #[] 9)))
  have H1:=hq7 h1
  have HON:=hq7 (gZ w 9 1)
  have HL1:=hq7 (show 0+n≤maxLen by unfold maxLen;omega)
  have HL2:=hq7 (show (0+n)*16≤140737488355328 by omega)
  clear h h1 hn
  go_enter Tryz.func95,Tryz.ntmps95
  go_wp2_with (at_builtin;refine jX (w.alloc (.cells #[] 9)) rfl (.tmp 5) (.tmp 6) 23 rfl w.heap.size 9 i0 (.string ⟨#[]⟩) 1 16 Tryz.underlying23 hi hz0 hz1 hz2 rfl (by decide) (.slice (some ⟨w.heap.size,0,none⟩) 0 0) 0 [] rfl HON.out B (some a) n c news rfl HH.out H1.out HL1.out HL2.out (by simp) ?_)
  intro v9 w9 hown9 hgr9 hwh9
  have HO9:=hq7 hown9
  have HB9:=hq7 (((Below.refl w.heap.size w).alloc (Nat.le_refl _) (.cells #[] 9)).grown hgr9 (by simp) (fun j e=>by cases e;exact Nat.le_refl _))
  clear hown9 hgr9 hwh9
  go_wp2
  go_ret
  exact ⟨v9,rfl,by simpa using HO9.out,HB9.out⟩
theorem DY:(Tryz.prog.info? 61).map (fun i=>(i.zero,i.size,i.bytes))=some (some (.agg #[.string ⟨#[]⟩, .int .i64 0, .int .i64 0, .string ⟨#[]⟩, .slice none 0 0, .slice none 0 0]),6,96):=by kernel_rfl
theorem Nz (B:Nat) (A:Option Addr) (c n:Nat) (news:List Value) (w:World) (h:Reads w B 6 A n news) (h1: ∀u∈news,u.oneCell'=true) (hn:n≤1073741824) (hB:B≤w.heap.size):
  Calls Tryz.prog 149 #[.slice A n c] w fun e w'=> ∃v',e= .returned v'∧w'.ownsRow w.heap.size 61 6 v' n news∧Below w.heap.size w w':=by
 have q22: ∀(w:World) (a:Option Addr) (n c n' c':Nat),(binOp .eql 57 (.slice a n c) (.slice none n' c')).run Tryz.prog w= .ok (.bool a.isNone) w:=fun w a n c n' c'=>Lib.run_eql_slice_nil w _ _ a n c n' c' Tryz.underlying57
 cases A with
 | none=>
  obtain rfl:n=0:=by
   rcases Nat.eq_zero_or_pos n with h0 | hp
   ·exact h0
   ·obtain ⟨b,off,he,-⟩:=h.2 hp
    cases he
  obtain rfl:news= []:=List.eq_nil_of_length_eq_zero (by simpa using h.1)
  clear h hn h1
  go_enter Tryz.func149,Tryz.ntmps149
  go_wp2
  go_ret
  exact ⟨_,rfl,World.ownsRow_nil _ _ _ _,Below.refl _ _⟩
 | some a=>
  obtain ⟨i0,hi,hz0,hz1,hz2⟩:=info_parts DY
  have HH:=hq7 (h.below ((Below.refl B w).alloc hB (.cells #[] 61)))
  have H1:=hq7 h1
  have HON:=hq7 (gZ w 61 6)
  have HL1:=hq7 (show 0+n≤maxLen by unfold maxLen;omega)
  have HL2:=hq7 (show (0+n)*96≤140737488355328 by omega)
  clear h h1 hn
  go_enter Tryz.func149,Tryz.ntmps149
  go_wp2_with (at_builtin;refine jX (w.alloc (.cells #[] 61)) rfl (.tmp 5) (.tmp 6) 57 rfl w.heap.size 61 i0 (.agg #[.string ⟨#[]⟩, .int .i64 0, .int .i64 0, .string ⟨#[]⟩, .slice none 0 0, .slice none 0 0]) 6 96 Tryz.underlying57 hi hz0 hz1 hz2 rfl (by decide) (.slice (some ⟨w.heap.size,0,none⟩) 0 0) 0 [] rfl HON.out B (some a) n c news rfl HH.out H1.out HL1.out HL2.out (by simp) ?_)
  intro v9 w9 hown9 hgr9 hwh9
  have HO9:=hq7 hown9
  have HB9:=hq7 (((Below.refl w.heap.size w).alloc (Nat.le_refl _) (.cells #[] 61)).grown hgr9 (by simp) (fun j e=>by cases e;exact Nat.le_refl _))
  clear hown9 hgr9 hwh9
  go_wp2
  go_ret
  exact ⟨v9,rfl,by simpa using HO9.out,HB9.out⟩
theorem NC:(Tryz.prog.info? 59).map (fun i=>(i.zero,i.size,i.bytes))=some (some (.agg #[.int .i64 0, .slice none 0 0, .slice none 0 0]),3,56):=by kernel_rfl
theorem ND (B:Nat) (A:Option Addr) (c n:Nat) (news:List Value) (w:World) (h:Reads w B 3 A n news) (h1: ∀u∈news,u.oneCell'=true) (hn:n≤1073741824) (hB:B≤w.heap.size):
  Calls Tryz.prog 93 #[.slice A n c] w fun e w'=> ∃v',e= .returned v'∧w'.ownsRow w.heap.size 59 3 v' n news∧Below w.heap.size w w':=by
 have q22: ∀(w:World) (a:Option Addr) (n c n' c':Nat),(binOp .eql 36 (.slice a n c) (.slice none n' c')).run Tryz.prog w= .ok (.bool a.isNone) w:=fun w a n c n' c'=>Lib.run_eql_slice_nil w _ _ a n c n' c' Tryz.underlying36
 cases A with
 | none=>
  obtain rfl:n=0:=by
   rcases Nat.eq_zero_or_pos n with h0 | hp
   ·exact h0
   ·obtain ⟨b,off,he,-⟩:=h.2 hp
    cases he
  obtain rfl:news= []:=List.eq_nil_of_length_eq_zero (by simpa using h.1)
  clear h hn h1
  go_enter Tryz.func93,Tryz.ntmps93
  go_wp2
  go_ret
  exact ⟨_,rfl,World.ownsRow_nil _ _ _ _,Below.refl _ _⟩
 | some a=>
  obtain ⟨i0,hi,hz0,hz1,hz2⟩:=info_parts NC
  have HH:=hq7 (h.below ((Below.refl B w).alloc hB (.cells #[] 59)))
  have H1:=hq7 h1
  have HON:=hq7 (gZ w 59 3)
  have HL1:=hq7 (show 0+n≤maxLen by unfold maxLen;omega)
  have HL2:=hq7 (show (0+n)*56≤140737488355328 by omega)
  clear h h1 hn
  go_enter Tryz.func93,Tryz.ntmps93
  go_wp2_with (at_builtin;refine jX (w.alloc (.cells #[] 59)) rfl (.tmp 5) (.tmp 6) 36 rfl w.heap.size 59 i0 (.agg #[.int .i64 0, .slice none 0 0, .slice none 0 0]) 3 56 Tryz.underlying36 hi hz0 hz1 hz2 rfl (by decide) (.slice (some ⟨w.heap.size,0,none⟩) 0 0) 0 [] rfl HON.out B (some a) n c news rfl HH.out H1.out HL1.out HL2.out (by simp) ?_)
  intro v9 w9 hown9 hgr9 hwh9
  have HO9:=hq7 hown9
  have HB9:=hq7 (((Below.refl w.heap.size w).alloc (Nat.le_refl _) (.cells #[] 59)).grown hgr9 (by simp) (fun j e=>by cases e;exact Nat.le_refl _))
  clear hown9 hgr9 hwh9
  go_wp2
  go_ret
  exact ⟨v9,rfl,by simpa using HO9.out,HB9.out⟩
theorem NG:(Tryz.prog.info? 63).map (fun i=>(i.zero,i.size,i.bytes))=some (some (.agg #[.int .i64 0, .string ⟨#[]⟩, .int .i64 0, .int .i64 0, .slice none 0 0]),5,64):=by kernel_rfl
theorem NH (B:Nat) (A:Option Addr) (c n:Nat) (news:List Value) (w:World) (h:Reads w B 5 A n news) (h1: ∀u∈news,u.oneCell'=true) (hn:n≤1073741824) (hB:B≤w.heap.size):
  Calls Tryz.prog 94 #[.slice A n c] w fun e w'=> ∃v',e= .returned v'∧w'.ownsRow w.heap.size 63 5 v' n news∧Below w.heap.size w w':=by
 have q22: ∀(w:World) (a:Option Addr) (n c n' c':Nat),(binOp .eql 37 (.slice a n c) (.slice none n' c')).run Tryz.prog w= .ok (.bool a.isNone) w:=fun w a n c n' c'=>Lib.run_eql_slice_nil w _ _ a n c n' c' Tryz.underlying37
 cases A with
 | none=>
  obtain rfl:n=0:=by
   rcases Nat.eq_zero_or_pos n with h0 | hp
   ·exact h0
   ·obtain ⟨b,off,he,-⟩:=h.2 hp
    cases he
  obtain rfl:news= []:=List.eq_nil_of_length_eq_zero (by simpa using h.1)
  clear h hn h1
  go_enter Tryz.func94,Tryz.ntmps94
  go_wp2
  go_ret
  exact ⟨_,rfl,World.ownsRow_nil _ _ _ _,Below.refl _ _⟩
 | some a=>
  obtain ⟨i0,hi,hz0,hz1,hz2⟩:=info_parts NG
  have HH:=hq7 (h.below ((Below.refl B w).alloc hB (.cells #[] 63)))
  have H1:=hq7 h1
  have HON:=hq7 (gZ w 63 5)
  have HL1:=hq7 (show 0+n≤maxLen by unfold maxLen;omega)
  have HL2:=hq7 (show (0+n)*64≤140737488355328 by omega)
  clear h h1 hn
  go_enter Tryz.func94,Tryz.ntmps94
  go_wp2_with (at_builtin;refine jX (w.alloc (.cells #[] 63)) rfl (.tmp 5) (.tmp 6) 37 rfl w.heap.size 63 i0 (.agg #[.int .i64 0, .string ⟨#[]⟩, .int .i64 0, .int .i64 0, .slice none 0 0]) 5 64 Tryz.underlying37 hi hz0 hz1 hz2 rfl (by decide) (.slice (some ⟨w.heap.size,0,none⟩) 0 0) 0 [] rfl HON.out B (some a) n c news rfl HH.out H1.out HL1.out HL2.out (by simp) ?_)
  intro v9 w9 hown9 hgr9 hwh9
  have HO9:=hq7 hown9
  have HB9:=hq7 (((Below.refl w.heap.size w).alloc (Nat.le_refl _) (.cells #[] 63)).grown hgr9 (by simp) (fun j e=>by cases e;exact Nat.le_refl _))
  clear hown9 hgr9 hwh9
  go_wp2
  go_ret
  exact ⟨v9,rfl,by simpa using HO9.out,HB9.out⟩
theorem own_below {w w':World} {B e k n:Nat} {v:Value} {xs:List Value} (h:w.ownsRow B e k v n xs) (hb:Below w.heap.size w w'):w'.ownsRow B e k v n xs:=
 h.kept (row:=none) ⟨hb.os,hb.tape,hb.output,hb.size,fun j hj _=>hb.block j hj⟩ (by cases hv:v.ownBlock<;> simp)
theorem qP (sep:List UInt8) (m:Nat): ∀l:List (List UInt8),(∀x∈l,x.length≤m)→(Cy.join sep l).length≤l.length*(m+sep.length)
 | [],_=>by simp [Cy.join]
 | [a],h=>by have:=h a (by simp);simp [Cy.join];omega
 | a :: b :: r,h=>by
  have h1:=h a (by simp)
  have ih:=qP sep m (b :: r) (fun x hx=>h x (List.mem_cons_of_mem _ hx))
  rw [Cy.join,List.length_append,List.length_append,List.length_cons,Nat.add_mul,Nat.one_mul]
  omega
theorem wo {k n:Int} {t:List UInt8} (hn:Cel.In64 n) (ht:t.length≤1000):(Cy.scalar k n t).length≤4002:=by
 have h1:=iT hn.1 hn.2
 have h2:=zK (Cel.u64 n)
 have h3:=Lex.sH t
 unfold Cy.scalar
 split
 ·split<;> decide
 ·split
  ·omega
  ·split<;> omega
theorem wu (k:Int):(Cy.word k).length≤5:=by
 unfold Cy.word
 repeat' split
 all_goals decide
theorem DZ {v:Cel.V} (h:Cel.check v=0) (hn: ∀n∈v.nums,Cel.In64 n):(Cy.parts v).length≤80∧ ∀x∈Cy.parts v,x.length≤4002:=by
 obtain ⟨p1,p2,p3,p4,p5,p6,p7,p8⟩:=Cel.jB h
 unfold Cy.parts
 refine ⟨by rw [List.length_append,List.length_map,List.length_map];omega,fun x hx=> ?_⟩
 rcases List.mem_append.1 hx with hx | hx
 ·obtain ⟨n,hm,rfl⟩:=List.mem_map.1 hx
  exact wo (hn n hm) (by simp)
 ·obtain ⟨t,hm,rfl⟩:=List.mem_map.1 hx
  exact wo ⟨by decide,by decide⟩ (zM p7 t hm)
theorem D5 {v:Cel.V} (h:Cel.check v=0) (hn: ∀n∈v.nums,Cel.In64 n) (h0:Cel.In64 v.num):(Cy.lit v).length≤400000:=by
 obtain ⟨q1,q2⟩:=DZ h hn
 have hj:=qP [44,32] 4002 _ q2
 have hw:=wu (v.kind - 4)
 obtain ⟨-,-,-,-,-,p6,-⟩:=Cel.jB h
 have hs:=wo (k:=v.kind) (t:=v.text) h0 p6
 have:(Cy.parts v).length*(4002+ [44,32].length)≤80*4004:=Nat.mul_le_mul q1 (by decide)
 unfold Cy.lit
 split
 ·omega
 ·simp only [List.length_append,List.length_cons,List.length_nil]
  split
  ·simp only [List.length_nil];omega
  ·simp only [List.length_cons];omega
structure PR (W1:World) (l:List (List UInt8)) (A:Option Addr) (n c:Nat) (wx:World):Prop where
 len:l.length=n
 own:wx.ownsRow W1.heap.size 9 1 (.slice A n c) n (l.map ST)
 bel:Below W1.heap.size W1 wx
theorem PR.below {W1 wx wy:World} {l:List (List UInt8)} {A:Option Addr} {n c:Nat} (h:PR W1 l A n c wx) (hb:Below wx.heap.size wx wy):PR W1 l A n c wy:=
 ⟨h.len,own_below h.own hb,h.bel.trans (hb.mono h.bel.size)⟩
theorem PR.next {W1 wx wy:World} {l l':List (List UInt8)} {A A':Option Addr} {n c c':Nat} {x:List UInt8} {z:ByteArray} (h:PR W1 l A n c wx) (hz:(⟨x.toArray⟩:ByteArray)=z) (ho:wy.ownsRow W1.heap.size 9 1 (.slice A' (n+1) c') (n+1) (l.map ST ++ [.string z])) (hb:Below W1.heap.size wx wy) (hl:l'=l ++ [x]):PR W1 l' A' (n+1) c' wy:=by
 subst hl hz
 exact ⟨by rw [List.length_append,h.len];rfl,by rw [List.map_append];exact ho,h.bel.trans hb⟩
theorem map_take {α β:Type} {l:List α} {k:Nat} {y:α} (h:l[k]?=some y) (f:α→β):(l.take (k+1)).map f=(l.take k).map f ++ [f y]:=by
 obtain ⟨hk,he⟩:=List.getElem?_eq_some_iff.1 h
 rw [List.take_succ_eq_append_getElem hk,List.map_append,he]
 rfl
theorem D6 (B:Nat) (u:Value) (v:Cel.V) (w:World) (h:VIn w B u v) (hB:B≤w.heap.size) (hL:Laid w):
  Calls Tryz.prog 17 #[u] w fun e w'=>e= .returned (.tuple #[.string ⟨(Cy.kZ v).1.toArray⟩, .int .i64 ((Cy.kZ v).2:Nat)])∧Below w.heap.size w w':=by
 have hch:=fun (W:World) (hb:Below w.heap.size w W)=>check_any B u v W (h.below (hb.mono hB)) (Nat.le_trans hB hb.size)
 have HV:=hq7 h
 obtain ⟨A1,c1,A2,c2,rfl,ra1,ra2⟩:=h.ex
 clear h
 obtain ⟨R,hR⟩: ∃R,Cy.kZ v=R:=⟨_,rfl⟩
 rw [hR]
 unfold Cy.kZ at hR
 have hcp:=fun h=>Cel.jB (v:=v) h
 have hpl:=fun h=>DZ (v:=v) h HV.out.nums
 obtain ⟨cv,hcv⟩: ∃c,Cel.check v=c:=⟨_,rfl⟩
 rw [hcv] at hch hR hcp hpl
 have hpr:Cy.lit v=if v.kind≤4 then Cy.scalar v.kind v.num v.text else [91,58] ++ Cy.word (v.kind - 4) ++(if Cy.parts v= [] then [] else 32 :: Cy.join [44,32] (Cy.parts v)) ++ [93]:=rfl
 have hpt:Cy.parts v=v.nums.map (fun n=>Cy.scalar (v.kind - 4) n []) ++ v.texts.map (fun t=>Cy.scalar (v.kind - 4) 0 t):=rfl
 obtain ⟨pv,hpv⟩: ∃c,Cy.lit v=c:=⟨_,rfl⟩
 obtain ⟨pt,hptn⟩: ∃c,Cy.parts v=c:=⟨_,rfl⟩
 rw [hpv] at hpr hR
 rw [hptn] at hpr hpt hpl
 clear hcv hpv hptn
 have HIN:=hq7 HV.out.nums
 have HI0:=hq7 HV.out.num
 obtain ⟨k0,n0,t0,ns,ts⟩:=v
 simp only at ra1 ra2 hch hcp hpr hpt HIN HI0⊢
 obtain ⟨nn,hnn⟩: ∃n,ns.length=n:=⟨_,rfl⟩
 obtain ⟨tn,htn⟩: ∃n,ts.length=n:=⟨_,rfl⟩
 obtain ⟨z,hz⟩: ∃z:ByteArray,(⟨t0.toArray⟩:ByteArray)=z:=⟨_,rfl⟩
 have hzs:z.size=t0.length:=by rw [←hz];exact aJ _
 have hzd:z.data.toList=t0:=by rw [←hz]
 rw [hnn] at ra1 hch⊢
 rw [htn] at ra2 hch⊢
 rw [hz] at hch⊢
 obtain ⟨W1,hW1⟩: ∃W1,w.alloc (.cells #[.int .i64 k0, .int .i64 n0, .string z, .slice A1 nn c1, .slice A2 tn c2] 25)=W1:=⟨_,rfl⟩
 have hb1:Below w.heap.size w W1:=by rw [←hW1];exact (Below.refl _ w).alloc (Nat.le_refl _) _
 have k1:Blk W1 w.heap.size 25 #[.int .i64 k0, .int .i64 n0, .string z, .slice A1 nn c1, .slice A2 tn c2]:=by rw [←hW1];exact Blk.new _ _ _
 have RA1:=hq7 (ra1.below (hb1.mono hB))
 have RA2:=hq7 (ra2.below (hb1.mono hB))
 have HB1:=hq7 hb1
 have HW1:=hq7 hW1
 have HCH:=hq7 (hch W1 hb1)
 have HNN:=hq7 hnn
 have HTN:=hq7 htn
 have HKB:=hq7 k1
 have HPR:=hq7 hpr
 have HPT:=hq7 hpt
 have HPL:=hq7 hpl
 have HR:=hq7 hR
 have HCP:=hq7 hcp
 have HZS:=hq7 hzs
 have HZD:=hq7 hzd
 have HL:=hq7 hL
 have HBw:=hq7 hB
 obtain ⟨a0,a1,a2,a3,a4,-⟩:=dG k1
 clear ra1 ra2 hnn htn hz k1 hb1 hW1 hch hpr hR hcp hzs hzd hL hpl hpt hB HV
 have hu:=eu
 go_enter Tryz.func17,Tryz.ntmps17
 go_upto_region 1 with fail
 rw [HW1.out]
 clear HW1
 go_wp2_with fail
 refine HCH.out.mono ?_
 rintro e w2 ⟨rfl,hb2⟩
 have HB2:=hq7 (HB1.out.trans (hb2.mono HB1.out.size))
 have HB12:=hq7 (hb2.mono (Nat.le_refl _))
 clear hb2 a0 a1 a2 a3 a4 HCH
 obtain ⟨a0,a1,a2,a3,a4,-⟩:=dG (HKB.out.below HB12.out HKB.out.lt)
 by_cases hc0:cv=0
 case neg=>
  have hr:R=([],cv):=by rw [←HR.out,if_neg hc0]
  have HRR:=hq7 hr
  have t0:((cv:Int) !=0)=true:=by rw [bne_iff_ne];omega
  clear hr hc0
  go_wp2
  go_ret2
  exact ⟨by rw [HRR.out];rfl,HB2.out⟩
 subst hc0
 have HRR:=hq7 (show R=(pv,0) by rw [←HR.out,if_pos rfl])
 have HCC:=hq7 (HCP.out rfl)
 have HPP:=hq7 (HPL.out rfl)
 clear HCP HPL HR
 have hk1:1≤k0:=HCC.out.1
 have hk8:k0≤8:=HCC.out.2.1
 have hk64:Cel.In64 k0:=⟨by omega,by omega⟩
 by_cases h4:k0≤4
 ·have t4:decide (k0≤4)=true:=decide_eq_true h4
  have hzz:z.size≤67108864:=by rw [HZS.out];have:=HCC.out.2.2.2.2.2.1;omega
  have HC:=hq7 (vg k0 n0 z w2 hk64 HI0.out hzz (HL.out.below HB2.out))
  have HK:=hq7 hk64
  clear hk64 hzz
  go_wp2_with fail
  refine HC.out.mono ?_
  rintro e w3 ⟨rfl,hb⟩
  have HB3:=hq7 (HB2.out.trans (hb.mono HB2.out.size))
  clear hb a0 a1 a2 a3 a4
  go_wp2
  go_ret2
  exact ⟨by rw [HRR.out,HPR.out,if_pos h4,HZD.out];rfl,HB3.out⟩
 ·have t4:decide (k0≤4)=false:=decide_eq_false h4
  have h4i:5≤k0:=by omega
  obtain ⟨kk,hkk⟩: ∃kk:Int,k0 - 4=kk:=⟨_,rfl⟩
  have hkw:Cel.In64 kk:=⟨by omega,by omega⟩
  have HKW:=hq7 hkw
  have HPT2:=hq7 (show pt=ns.map (fun n=>Cy.scalar kk n []) ++ ts.map (fun t=>Cy.scalar kk 0 t) by rw [←hkk];exact HPT.out)
  have hpr2:=HPR.out
  rw [if_neg h4,hkk] at hpr2
  have HPR2:=hq7 hpr2
  have hnn40:(nn:Int)≤40:=by have:=HCC.out.2.2.2.1;have h2:=HNN.out;rw [show ns.length=nn from h2] at this;omega
  have htn40:(tn:Int)≤40:=by have:=HCC.out.2.2.2.2.1;have h2:=HTN.out;rw [show ts.length=tn from h2] at this;omega
  have HKK:=hq7 hkk
  clear HPT HPR hpr2 hkw hk64
  go_wp2_with fail
  go_loopg [33,6] nn (fun g x y wr=> ∃(k c:Nat) (A:Option Addr),x= .int .i64 k∧y= .slice A k c∧k+g=nn∧PR W1 ((ns.take k).map (fun n=>Cy.scalar kk n [])) A k c wr)
  case atStart=>exact ⟨0,0,none,rfl,rfl,by omega,rfl,World.ownsRow_nil _ _ _ _,HB12.out⟩
  case round=>
   obtain ⟨k,c,A,rfl,rfl,hk,hrel⟩:=hrel
   have HQ:=hq7 hrel
   have HK:=hq7 hk
   clear hrel a0 a1 a2 a3 a4
   obtain ⟨a0,a1,a2,a3,a4,-⟩:=dG (HKB.out.below HQ.out.bel HKB.out.lt)
   cases gk with
   | succ g=>
    have hkn:k<nn:=by omega
    have hknI:(k:Int)<nn:=by omega
    obtain ⟨p,o,x,rfl,-,hx,hp⟩:=(RA1.out.below (HQ.out.bel.mono (Nat.le_trans HBw.out HB1.out.size))).cell hkn
    rw [List.getElem?_map] at hx
    obtain ⟨y,hy,rfl⟩:=Option.map_eq_some_iff.1 hx
    unfold I64 at hp
    have hy64:=HIN.out y (List.mem_of_getElem? hy)
    have hcall:=vg kk y ⟨#[]⟩ wr HKW.out hy64 (by decide) (HL.out.below (HB1.out.trans (HQ.out.bel.mono HB1.out.size)))
    obtain ⟨zx,hzx⟩: ∃zx:ByteArray,(⟨(Cy.scalar kk y []).toArray⟩:ByteArray)=zx:=⟨_,rfl⟩
    rw [show ((⟨#[]⟩:ByteArray).data.toList)= [] from rfl,hzx] at hcall
    have HC:=hq7 hcall
    have HZX:=hq7 hzx
    have hmt:=map_take hy (fun n=>Cy.scalar kk n [])
    obtain ⟨LL,hLL⟩: ∃LL,(ns.take k).map (fun n=>Cy.scalar kk n [])=LL:=⟨_,rfl⟩
    rw [hLL] at HQ hmt
    have HMT:=hq7 hmt
    clear hx hy hy64 hcall hzx hkn hk hLL hmt
    go_wp2_with fail
    refine HC.out.mono ?_
    rintro e w3 ⟨rfl,hb3⟩
    have HQ3:=hq7 (HQ.out.below hb3)
    clear hb3 HQ
    have hbg:=HQ3.out.bel.size
    have hkl:k<1073741824:=by omega
    go_wp2_with (at_builtin;refine iD rfl (.tmp 37) (.tmp 41) 23 9 (.string ⟨#[]⟩) 16 Tryz.underlying23 lV rfl (by decide) rfl W1.heap.size (.slice A k c) k _ w3 rfl HQ3.out.own (.string zx) rfl rfl hkl hbg ?_)
    intro v9 w9 hown9 hgr9 hwh9 hb9
    obtain ⟨A9,c9,rfl⟩:=ak hown9
    have HNX:=hq7 (HQ3.out.next HZX.out hown9 hb9 HMT.out)
    clear hown9 hgr9 hwh9 hb9 a0 a1 a2 a3 a4
    go_wp2
    go_roundg g
    case measure=>omega
    case rel=>exact ⟨k+1,c9,A9,int_eq (by omega),rfl,by have:=HK.out;omega,HNX.out⟩
   | zero=>
    obtain rfl:k=nn:=by omega
    have hq:=HQ.out
    rw [List.take_of_length_le (by have:=HNN.out;omega)] at hq
    have HQ2:=hq7 hq
    clear hq HQ hk
    go_wp2_with fail
    go_loopg [47,6] tn (fun g x y wr=> ∃(j c:Nat) (A:Option Addr),x= .int .i64 j∧y= .slice A (k+j) c∧j+g=tn∧PR W1 (ns.map (fun n=>Cy.scalar kk n []) ++(ts.take j).map (fun t=>Cy.scalar kk 0 t)) A (k+j) c wr)
    case atStart=>exact ⟨0,c,A,rfl,rfl,by omega,by rw [List.take_zero,List.map_nil,List.append_nil];exact HQ2.out⟩
    case round=>
     obtain ⟨j,c,A,rfl,rfl,hk,hrel⟩:=hrel
     have HQ:=hq7 hrel
     have HK:=hq7 hk
     clear hrel a0 a1 a2 a3 a4
     obtain ⟨a0,a1,a2,a3,a4,-⟩:=dG (HKB.out.below HQ.out.bel HKB.out.lt)
     cases gk with
     | succ g=>
      have hkn:j<tn:=by omega
      have hknI:(j:Int)<tn:=by omega
      obtain ⟨p,o,x,rfl,-,hx,hp⟩:=(RA2.out.below (HQ.out.bel.mono (Nat.le_trans HBw.out HB1.out.size))).cell hkn
      rw [List.getElem?_map] at hx
      obtain ⟨y,hy,rfl⟩:=Option.map_eq_some_iff.1 hx
      unfold ST at hp
      have hyl:=zM HCC.out.2.2.2.2.2.2.1 y (List.mem_of_getElem? hy)
      obtain ⟨zy,hzy⟩: ∃zy:ByteArray,(⟨y.toArray⟩:ByteArray)=zy:=⟨_,rfl⟩
      rw [hzy] at hp
      have hzyd:zy.data.toList=y:=by rw [←hzy]
      have hcall:=vg kk 0 zy wr HKW.out ⟨by decide,by decide⟩ (by rw [Lib.size_eq,hzyd];omega) (HL.out.below (HB1.out.trans (HQ.out.bel.mono HB1.out.size)))
      obtain ⟨zx,hzx⟩: ∃zx:ByteArray,(⟨(Cy.scalar kk 0 y).toArray⟩:ByteArray)=zx:=⟨_,rfl⟩
      rw [hzyd,hzx] at hcall
      have HC:=hq7 hcall
      have HZX:=hq7 hzx
      have hmt:=map_take hy (fun t=>Cy.scalar kk 0 t)
      obtain ⟨LL,hLL⟩: ∃LL,ns.map (fun n=>Cy.scalar kk n []) ++(ts.take j).map (fun t=>Cy.scalar kk 0 t)=LL:=⟨_,rfl⟩
      have hmt2:ns.map (fun n=>Cy.scalar kk n []) ++(ts.take (j+1)).map (fun t=>Cy.scalar kk 0 t)=LL ++ [Cy.scalar kk 0 y]:=by rw [hmt,←hLL,List.append_assoc]
      rw [hLL] at HQ
      have HMT:=hq7 hmt2
      have HZY:=hq7 hzy
      clear hx hy hcall hzx hkn hk hLL hmt hmt2 hyl hzy hzyd
      go_wp2_with fail
      refine HC.out.mono ?_
      rintro e w3 ⟨rfl,hb3⟩
      have HQ3:=hq7 (HQ.out.below hb3)
      clear hb3 HQ
      have hbg:=HQ3.out.bel.size
      obtain ⟨kj,hkj⟩: ∃m,k+j=m:=⟨_,rfl⟩
      rw [hkj] at HQ3⊢
      have hkl:kj<1073741824:=by omega
      have HKJ:=hq7 hkj
      clear hkj
      go_wp2_with (at_builtin;refine iD rfl (.tmp 51) (.tmp 55) 23 9 (.string ⟨#[]⟩) 16 Tryz.underlying23 lV rfl (by decide) rfl W1.heap.size (.slice A kj c) kj _ w3 rfl HQ3.out.own (.string zx) rfl rfl hkl hbg ?_)
      intro v9 w9 hown9 hgr9 hwh9 hb9
      obtain ⟨A9,c9,rfl⟩:=ak hown9
      have HNX:=hq7 (HQ3.out.next HZX.out hown9 hb9 HMT.out)
      clear hown9 hgr9 hwh9 hb9 a0 a1 a2 a3 a4
      go_wp2
      go_roundg g
      case measure=>omega
      case rel=>exact ⟨j+1,c9,A9,int_eq (by omega),by rw [←HKJ.out];rfl,by have:=HK.out;omega,by have:=HNX.out;rw [←HKJ.out] at this;exact this⟩
     | zero=>
      obtain rfl:j=tn:=by omega
      have hq:=HQ.out
      rw [List.take_of_length_le (by have:=HTN.out;omega),←HPT2.out] at hq
      obtain ⟨kj,hkj⟩: ∃m,k+j=m:=⟨_,rfl⟩
      rw [hkj] at hq⊢
      have hkjl:(kj:Int)≤80:=by omega
      have HQ2:=hq7 hq
      have hjl:=qP [44,32] 4002 pt HPP.out.2
      have hjl2:pt.length*(4002+ [44,32].length)≤80*4004:=Nat.mul_le_mul HPP.out.1 (by decide)
      have HJL:=hq7 (Nat.le_trans hjl hjl2)
      have hwl:=wu kk
      obtain ⟨wz,hwz⟩: ∃wz:ByteArray,(⟨(Cy.word kk).toArray⟩:ByteArray)=wz:=⟨_,rfl⟩
      have hwzs:wz.size≤5:=by rw [←hwz,aJ];exact hwl
      have hwzd:wz.data.toList=Cy.word kk:=by rw [←hwz]
      have hkc:=uZ kk wr HKW.out
      rw [hwz] at hkc
      have HKC:=hq7 hkc
      have HWZ:=hq7 hwzd
      clear hq HQ hk hkj hjl hjl2 hwl hwz hkc hwzd a0 a1 a2 a3 a4
      go_wp2_with fail
      refine HKC.out.mono ?_
      rintro e w3 ⟨rfl,rfl⟩
      have hq1:(⟨#[91,58]⟩ ++ wz:ByteArray).size≤7:=by rw [ByteArray.size_append];show 2+wz.size≤7;omega
      by_cases h0:pt= []
      ·have hk0:kj=0:=by rw [←HQ2.out.len,h0];rfl
       subst hk0
       have HRF:=hq7 (show (⟨pv.toArray⟩:ByteArray)=⟨#[91,58]⟩ ++ wz ++⟨#[93]⟩ by apply ByteArray.ext;rw [HPR2.out,if_pos h0,←HWZ.out];simp)
       have HBF:=hq7 (HB1.out.trans (HQ2.out.bel.mono HB1.out.size))
       clear h0
       go_wp2
       go_ret2
       exact ⟨by rw [HRR.out,HRF.out];rfl,HBF.out⟩
      ·have hk0:(0:Int)<kj:=by
        have:=HQ2.out.len
        have h1:0<pt.length:=List.length_pos_iff.2 h0
        omega
       have tk:decide (0<kj)=true:=decide_eq_true (by omega)
       have hjc:=Di W1.heap.size 9 A c pt wr kj HQ2.out.len (by omega) HQ2.out.own (by have:=HJL.out;omega)
       obtain ⟨jz,hjz⟩: ∃jz:ByteArray,(⟨(Cy.join [44,32] pt).toArray⟩:ByteArray)=jz:=⟨_,rfl⟩
       rw [hjz] at hjc
       have hjs:jz.size≤320320:=by rw [←hjz,aJ];have:=HJL.out;omega
       have HRF:=hq7 (show (⟨pv.toArray⟩:ByteArray)=⟨#[91,58]⟩ ++ wz ++(⟨#[32]⟩ ++ jz) ++⟨#[93]⟩ by apply ByteArray.ext;rw [HPR2.out,if_neg h0,←HWZ.out,←hjz];simp)
       have HJC:=hq7 hjc
       clear h0 hjc hjz
       have hq2:(⟨#[32]⟩ ++ jz:ByteArray).size≤320321:=by rw [ByteArray.size_append];show 1+jz.size≤320321;omega
       have hq3:(⟨#[91,58]⟩ ++ wz ++(⟨#[32]⟩ ++ jz):ByteArray).size≤320328:=by rw [ByteArray.size_append];omega
       go_wp2_with fail
       refine HJC.out.mono ?_
       rintro e w4 ⟨rfl,hb4⟩
       have HBF:=hq7 (HB1.out.trans ((HQ2.out.bel.trans (hb4.mono HQ2.out.bel.size)).mono HB1.out.size))
       clear hb4
       go_wp2
       go_ret2
       exact ⟨by rw [HRR.out,HRF.out];rfl,HBF.out⟩
end Go.Proofs.YtoofbflplhbpbaaGreatDoor
