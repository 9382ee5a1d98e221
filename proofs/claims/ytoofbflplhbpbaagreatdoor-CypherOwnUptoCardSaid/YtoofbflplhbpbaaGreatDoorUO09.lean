/- Contracts and plain laws,part 9. -/
import Derived.Test.YtoofbflplhbpbaaGreatDoorUO08
set_option maxHeartbeats 64000000
set_option maxRecDepth 1000000
set_option linter.all false
namespace Go.Proofs.YtoofbflplhbpbaaGreatDoor
open Go.RowKit
def y5 (r:Option (UInt8×Nat)) (w:World) (e:Ending) (w':World):Prop:=
 Below w.heap.size w w'/\match r with
  | some (x,n)=>e= .returned (.tuple #[.int .u8 x.toNat, .int .i64 n, .bool true])
  | none=> ∃c n:Int,e= .returned (.tuple #[.int .u8 c, .int .i64 n, .bool false])
theorem uG {P:Program} {fn:Func} {R:Ending->World->Prop} {tmps:Array Value} {W:World} {a b c:Tmp} (h:fn.results= #[.tmp a, .tmp b, .tmp c]) (hR:R (.returned (.tuple #[tmps.getD a undef,tmps.getD b undef,tmps.getD c undef])) W):
  bodyPost P fn R .ret {tmps:=tmps,defers:= []} W:=
 bodyPost_ret (v:= .tuple #[tmps.getD a undef,tmps.getD b undef,tmps.getD c undef]) (by simp [results,h,go_sem]) rfl hR
theorem byte_back (c:UInt8):((c.toNat:Int)).toNat.toUInt8=c:=by simp
def xC (a:Option Nat):Int:=match a with | some d=>(d:Int) | none=> -1
theorem af8: ∀c:Fin 256,Lib.indexByte [48,49,50,51,52,53,54,55,56,57,97,98,99,100,101,102] (UInt8.ofNat c.val)=xC (Num.gB (UInt8.ofNat c.val)):=by decide+kernel
theorem Yq (c:UInt8):Lib.indexByte [48,49,50,51,52,53,54,55,56,57,97,98,99,100,101,102] c=xC (Num.gB c):=by
 have:=af8 ⟨c.toNat,aeE c⟩
 simpa using this
theorem af9: ∀c:Fin 256,∀d∈Num.gB (UInt8.ofNat c.val),d<16:=by decide+kernel
theorem Dl {c:UInt8} {d:Nat} (h:Num.gB c=some d):d<16:=
 af9 ⟨c.toNat,aeE c⟩ d (by simpa using h)
theorem bq {c:UInt8} {k:UInt8} {n:Int} (hn:(k.toNat:Int)=n) {b:Bool} (h:(c == k)=b):((c.toNat:Int) == n)=b:=by
 rw [<-h,<-hn,alp,adp,adp,<-ad8];omega
theorem aga {s:ByteArray} {k:Nat} (h:k<s.size):s.data.toList[k]?=some (s[k]'h):=by
 have h1:k<s.data.toList.length:=by rw [<-Lib.size_eq];exact h
 rw [ab2 h1];rfl
theorem agb (s:ByteArray) (w:World) (hs:s.size<=1073741824):
  Calls Tryz.prog 254 #[.string s] w (y5 (Lex.esc s.data.toList) w):=by
 have hlen:=Lib.size_eq s
 rcases aed s.size with h0 | hpos
 ·have hl:s.data.toList= []:=acD (by omega)
  have hsn:s.toList.isEmpty=true:=by rw [Lib.toList_data,hl];rfl
  rw [hl]
  have HE:y5 (Lex.esc []) w (.returned (.tuple #[.int .u8 0, .int .i64 0, .bool false])) w:=⟨Below.refl _ _,0,0,rfl⟩
  have HH:=ah HE;clear HE hl hlen;go_enter Tryz.func254,Tryz.ntmps254;go_wp2
  refine uG rfl ?_;exact HH.out
 have hl:s.data.toList=s[0]'hpos :: s.data.toList.drop 1:=by have:=vI hpos;rwa [aeC] at this
 have hsn:s.toList.isEmpty=false:=by rw [Lib.toList_data,hl];rfl
 have hp:(0:Int)<s.size:=by omega
 by_cases dX:s[0]'hpos=92
 ·have zL:((((s[0]'hpos).toNat:Nat):Int) == 92)=true:=bq (k:=92) rfl (by rw [dX];decide)
  have t39:((((s[0]'hpos).toNat:Nat):Int) == 39)=false:=bq (k:=39) rfl (by rw [dX];decide)
  have Gf:((((s[0]'hpos).toNat:Nat):Int) == 110)=false:=bq (k:=110) rfl (by rw [dX];decide)
  have Gg:((((s[0]'hpos).toNat:Nat):Int) == 114)=false:=bq (k:=114) rfl (by rw [dX];decide)
  have t116:((((s[0]'hpos).toNat:Nat):Int) == 116)=false:=bq (k:=116) rfl (by rw [dX];decide)
  have Gh:((((s[0]'hpos).toNat:Nat):Int) == 120)=false:=bq (k:=120) rfl (by rw [dX];decide)
  have he:Lex.esc s.data.toList=some (92,1):=by rw [hl,dX];rfl
  rw [he]
  have HE:y5 (some (92,1)) w (.returned (.tuple #[.int .u8 (s[0]'hpos).toNat, .int .i64 1, .bool true])) w:=⟨Below.refl _ _,by first | rfl |(simp only [dX];rfl)⟩
  have HH:=ah HE;clear HE he hl hlen dX;go_enter Tryz.func254,Tryz.ntmps254;go_wp2
  refine uG rfl ?_;exact HH.out
 by_cases dB:s[0]'hpos=39
 ·have zL:((((s[0]'hpos).toNat:Nat):Int) == 92)=false:=bq (k:=92) rfl (by rw [dB];decide)
  have t39:((((s[0]'hpos).toNat:Nat):Int) == 39)=true:=bq (k:=39) rfl (by rw [dB];decide)
  have Gf:((((s[0]'hpos).toNat:Nat):Int) == 110)=false:=bq (k:=110) rfl (by rw [dB];decide)
  have Gg:((((s[0]'hpos).toNat:Nat):Int) == 114)=false:=bq (k:=114) rfl (by rw [dB];decide)
  have t116:((((s[0]'hpos).toNat:Nat):Int) == 116)=false:=bq (k:=116) rfl (by rw [dB];decide)
  have Gh:((((s[0]'hpos).toNat:Nat):Int) == 120)=false:=bq (k:=120) rfl (by rw [dB];decide)
  have he:Lex.esc s.data.toList=some (39,1):=by rw [hl,dB];rfl
  rw [he]
  have HE:y5 (some (39,1)) w (.returned (.tuple #[.int .u8 (s[0]'hpos).toNat, .int .i64 1, .bool true])) w:=⟨Below.refl _ _,by first | rfl |(simp only [dB];rfl)⟩
  have HH:=ah HE;clear HE he hl hlen dX dB;go_enter Tryz.func254,Tryz.ntmps254;go_wp2
  refine uG rfl ?_;exact HH.out
 by_cases oJ:s[0]'hpos=110
 ·have zL:((((s[0]'hpos).toNat:Nat):Int) == 92)=false:=bq (k:=92) rfl (by rw [oJ];decide)
  have t39:((((s[0]'hpos).toNat:Nat):Int) == 39)=false:=bq (k:=39) rfl (by rw [oJ];decide)
  have Gf:((((s[0]'hpos).toNat:Nat):Int) == 110)=true:=bq (k:=110) rfl (by rw [oJ];decide)
  have Gg:((((s[0]'hpos).toNat:Nat):Int) == 114)=false:=bq (k:=114) rfl (by rw [oJ];decide)
  have t116:((((s[0]'hpos).toNat:Nat):Int) == 116)=false:=bq (k:=116) rfl (by rw [oJ];decide)
  have Gh:((((s[0]'hpos).toNat:Nat):Int) == 120)=false:=bq (k:=120) rfl (by rw [oJ];decide)
  have he:Lex.esc s.data.toList=some (10,1):=by rw [hl,oJ];rfl
  rw [he]
  have HE:y5 (some (10,1)) w (.returned (.tuple #[.int .u8 10, .int .i64 1, .bool true])) w:=⟨Below.refl _ _,by first | rfl |(simp only [oJ];rfl)⟩
  have HH:=ah HE;clear HE he hl hlen dX dB oJ;go_enter Tryz.func254,Tryz.ntmps254;go_wp2
  refine uG rfl ?_;exact HH.out
 by_cases pR:s[0]'hpos=114
 ·have zL:((((s[0]'hpos).toNat:Nat):Int) == 92)=false:=bq (k:=92) rfl (by rw [pR];decide)
  have t39:((((s[0]'hpos).toNat:Nat):Int) == 39)=false:=bq (k:=39) rfl (by rw [pR];decide)
  have Gf:((((s[0]'hpos).toNat:Nat):Int) == 110)=false:=bq (k:=110) rfl (by rw [pR];decide)
  have Gg:((((s[0]'hpos).toNat:Nat):Int) == 114)=true:=bq (k:=114) rfl (by rw [pR];decide)
  have t116:((((s[0]'hpos).toNat:Nat):Int) == 116)=false:=bq (k:=116) rfl (by rw [pR];decide)
  have Gh:((((s[0]'hpos).toNat:Nat):Int) == 120)=false:=bq (k:=120) rfl (by rw [pR];decide)
  have he:Lex.esc s.data.toList=some (13,1):=by rw [hl,pR];rfl
  rw [he]
  have HE:y5 (some (13,1)) w (.returned (.tuple #[.int .u8 13, .int .i64 1, .bool true])) w:=⟨Below.refl _ _,by first | rfl |(simp only [pR];rfl)⟩
  have HH:=ah HE;clear HE he hl hlen dX dB oJ pR;go_enter Tryz.func254,Tryz.ntmps254
  go_wp2;refine uG rfl ?_;exact HH.out
 by_cases h116:s[0]'hpos=116
 ·have zL:((((s[0]'hpos).toNat:Nat):Int) == 92)=false:=bq (k:=92) rfl (by rw [h116];decide)
  have t39:((((s[0]'hpos).toNat:Nat):Int) == 39)=false:=bq (k:=39) rfl (by rw [h116];decide)
  have Gf:((((s[0]'hpos).toNat:Nat):Int) == 110)=false:=bq (k:=110) rfl (by rw [h116];decide)
  have Gg:((((s[0]'hpos).toNat:Nat):Int) == 114)=false:=bq (k:=114) rfl (by rw [h116];decide)
  have t116:((((s[0]'hpos).toNat:Nat):Int) == 116)=true:=bq (k:=116) rfl (by rw [h116];decide)
  have Gh:((((s[0]'hpos).toNat:Nat):Int) == 120)=false:=bq (k:=120) rfl (by rw [h116];decide)
  have he:Lex.esc s.data.toList=some (9,1):=by rw [hl,h116];rfl
  rw [he]
  have HE:y5 (some (9,1)) w (.returned (.tuple #[.int .u8 9, .int .i64 1, .bool true])) w:=⟨Below.refl _ _,by first | rfl |(simp only [h116];rfl)⟩
  have HH:=ah HE;clear HE he hl hlen dX dB oJ pR h116;go_enter Tryz.func254,Tryz.ntmps254
  go_wp2;refine uG rfl ?_;exact HH.out
 by_cases sG:s[0]'hpos=120
 ·have zL:((((s[0]'hpos).toNat:Nat):Int) == 92)=false:=bq (k:=92) rfl (by rw [sG];decide)
  have t39:((((s[0]'hpos).toNat:Nat):Int) == 39)=false:=bq (k:=39) rfl (by rw [sG];decide)
  have Gf:((((s[0]'hpos).toNat:Nat):Int) == 110)=false:=bq (k:=110) rfl (by rw [sG];decide)
  have Gg:((((s[0]'hpos).toNat:Nat):Int) == 114)=false:=bq (k:=114) rfl (by rw [sG];decide)
  have t116:((((s[0]'hpos).toNat:Nat):Int) == 116)=false:=bq (k:=116) rfl (by rw [sG];decide)
  have Gh:((((s[0]'hpos).toNat:Nat):Int) == 120)=true:=bq (k:=120) rfl (by rw [sG];decide)
  by_cases h3:s.size<3
  ·have he:Lex.esc s.data.toList=none:=by
    rw [hl,sG];obtain ⟨r,hr⟩: ∃r,s.data.toList.drop 1=r:=⟨_,rfl⟩
    have hrl:r.length<2:=by rw [<-hr,acM];omega
    rw [hr]
    match r,hrl with
    | [],_=>rfl
    | [a],_=>rfl
   rw [he]
   have HE:y5 none w (.returned (.tuple #[.int .u8 0, .int .i64 0, .bool false])) w:=⟨Below.refl _ _,0,0,rfl⟩
   have HH:=ah HE;have hd3:decide (s.size<3)=true:=abW h3
   have ako:decide ((s.size:Int)<3)=true:=abW (by omega)
   clear HE he hl hlen dX dB oJ pR h116 sG;go_enter Tryz.func254,Tryz.ntmps254;go_wp2
   refine uG rfl ?_;exact HH.out
  have q1:1<s.size:=by omega
  have q2:2<s.size:=by omega
  have i1:(1:Int)<s.size:=by omega
  have i2:(2:Int)<s.size:=by omega
  have he:Lex.esc s.data.toList=match Num.gB (s[1]'q1),Num.gB (s[2]'q2) with
    | some x,some y=>some (UInt8.ofNat (x*16+y),3)
    | _,_=>none:=by
   rw [hl,sG,vI q1,vI q2];rfl
  rw [he];have hd3:decide (s.size<3)=false:=abX h3
  have ako:decide ((s.size:Int)<3)=false:=abX (by omega)
  obtain ⟨a,ha⟩: ∃a,Num.gB (s[1]'q1)=a:=⟨_,rfl⟩
  obtain ⟨b,hb⟩: ∃b,Num.gB (s[2]'q2)=b:=⟨_,rfl⟩;have ca:=Yq (s[1]'q1)
  have cb:=Yq (s[2]'q2);rw [ha] at ca;rw [hb] at cb
  have hi1: ∀wx:World,Calls Tryz.prog 117 #[.string ⟨#[48,49,50,51,52,53,54,55,56,57,97,98,99,100,101,102]⟩, .int .u8 ((s[1]'q1).toNat:Int)] wx fun e w'=>e= .returned (.int .i64 (xC a))/\w'=wx:=fun wx=>
   (Tryz.strings_IndexByte _ _ wx).mono fun e w' ⟨he,hw⟩=>⟨by rw [he];exact Ya (int_eq (by rw [byte_back];exact ca)),hw⟩
  have hi2: ∀wx:World,Calls Tryz.prog 117 #[.string ⟨#[48,49,50,51,52,53,54,55,56,57,97,98,99,100,101,102]⟩, .int .u8 ((s[2]'q2).toNat:Int)] wx fun e w'=>e= .returned (.int .i64 (xC b))/\w'=wx:=fun wx=>
   (Tryz.strings_IndexByte _ _ wx).mono fun e w' ⟨he,hw⟩=>⟨by rw [he];exact Ya (int_eq (by rw [byte_back];exact cb)),hw⟩
  have HI1:=ah hi1;have HI2:=ah hi2;have la: ∀d,a=some d->d<16:=fun d h=>Dl (ha.trans h)
  have lb: ∀d,b=some d->d<16:=fun d h=>Dl (hb.trans h)
  have LA:=ah la;have LB:=ah lb;rw [ha,hb]
  clear hi1 hi2 he hl hlen ha hb ca cb la lb dX dB oJ pR h116 sG;cases a with
  | none=>
   have ea:xC none= -1:=rfl;rw [ea] at HI1;cases b with
   | none=>
    have eb:xC none= -1:=rfl;rw [eb] at HI2;go_enter Tryz.func254,Tryz.ntmps254;go_wp2
    go_quiet ((go_at_call 117;first | exact Calls.quiet_of_same (HI1.out _) | exact Calls.quiet_of_same (HI2.out _) | exact vF (HI1.out _) | exact vF (HI2.out _)))
    go_wp2;refine uG rfl ?_;exact ⟨below_drewN (Below.refl _ _) _,_,_,rfl⟩
   | some y=>
    have hy:=LB.out y rfl;have eb:xC (some y)=(y:Int):=rfl;rw [eb] at HI2;clear LA LB
    go_enter Tryz.func254,Tryz.ntmps254;go_wp2
    go_quiet ((go_at_call 117;first | exact Calls.quiet_of_same (HI1.out _) | exact Calls.quiet_of_same (HI2.out _) | exact vF (HI1.out _) | exact vF (HI2.out _)))
    go_wp2;refine uG rfl ?_;exact ⟨below_drewN (Below.refl _ _) _,_,_,rfl⟩
  | some x=>
   have hx:=LA.out x rfl;have ea:xC (some x)=(x:Int):=rfl;rw [ea] at HI1;cases b with
   | none=>
    have eb:xC none= -1:=rfl;rw [eb] at HI2;clear LA LB
    go_enter Tryz.func254,Tryz.ntmps254;go_wp2
    go_quiet ((go_at_call 117;first | exact Calls.quiet_of_same (HI1.out _) | exact Calls.quiet_of_same (HI2.out _) | exact vF (HI1.out _) | exact vF (HI2.out _)))
    go_wp2;refine uG rfl ?_;exact ⟨below_drewN (Below.refl _ _) _,_,_,rfl⟩
   | some y=>
    have hy:=LB.out y rfl;have eb:xC (some y)=(y:Int):=rfl;rw [eb] at HI2
    have ev:((UInt8.ofNat (x*16+y)).toNat:Int)=16*x+y:=by
     rw [UInt8.toNat_ofNat',Nat.mod_eq_of_lt (by omega)]
     omega
    have HV:=ah ev;clear LA LB ev;go_enter Tryz.func254,Tryz.ntmps254;go_wp2
    go_quiet ((go_at_call 117;first | exact Calls.quiet_of_same (HI1.out _) | exact Calls.quiet_of_same (HI2.out _) | exact vF (HI1.out _) | exact vF (HI2.out _)))
    go_wp2;refine uG rfl ?_;refine ⟨below_drewN (Below.refl _ _) _, ?_⟩
    show _=Ending.returned (.tuple #[.int .u8 ((UInt8.ofNat (x*16+y)).toNat:Int),_,_])
    rw [HV.out];rfl
 have zL:((((s[0]'hpos).toNat:Nat):Int) == 92)=false:=bq (k:=92) rfl (ab3.2 dX)
 have t39:((((s[0]'hpos).toNat:Nat):Int) == 39)=false:=bq (k:=39) rfl (ab3.2 dB)
 have Gf:((((s[0]'hpos).toNat:Nat):Int) == 110)=false:=bq (k:=110) rfl (ab3.2 oJ)
 have Gg:((((s[0]'hpos).toNat:Nat):Int) == 114)=false:=bq (k:=114) rfl (ab3.2 pR)
 have t116:((((s[0]'hpos).toNat:Nat):Int) == 116)=false:=bq (k:=116) rfl (ab3.2 h116)
 have Gh:((((s[0]'hpos).toNat:Nat):Int) == 120)=false:=bq (k:=120) rfl (ab3.2 sG)
 have he:Lex.esc s.data.toList=none:=by
  rw [hl];simp only [Lex.esc];rw [ab6 (fun h=>h.elim dX dB),ab6 oJ,ab6 pR,ab6 h116,ab6 sG]
 rw [he]
 have HE:y5 none w (.returned (.tuple #[.int .u8 0, .int .i64 0, .bool false])) w:=⟨Below.refl _ _,0,0,rfl⟩
 have HH:=ah HE;clear HE he hl hlen dX dB oJ pR h116 sG
 go_enter Tryz.func254,Tryz.ntmps254;go_wp2;refine uG rfl ?_;exact HH.out
theorem agc (s:ByteArray) (w:World) (hs:s.size<=1073741824) (hL:Laid w):
  Calls Tryz.prog 122 #[.string s] w (iU (Num.parse s.data.toList) w):=by
 by_cases hn:s.data.toList=Num.tZ
 ·have t1:(s.toList == [48,120,110,97,110])=true:=by rw [Lib.toList_data,hn];rfl
  have hp:Num.parse s.data.toList=some 9221120237041090560:=by unfold Num.parse;rw [ab7 hn]
  rw [hp];clear hp hn hL;go_enter Tryz.func122,Tryz.ntmps122;go_wp2
  go_ret2
  exact ⟨rfl,Below.refl _ _⟩
 by_cases hh:s.data.toList.head?=some 45
 ·exact akk s w hs hL hn hh
 exact akn s w hs hL hn hh
def jv:Lex.jQ->Nat->Value
 | .tok kd tx nm n,i=> .agg #[.int .i64 (kd:Int), .string ⟨tx.toArray⟩, .int .i64 nm, .int .i64 (i:Int), .int .i64 ((i+n:Nat):Int), .int .i64 0]
 | .err o e,i=> .agg #[.int .i64 0, .string ⟨#[]⟩, .int .i64 0, .int .i64 ((i+o:Nat):Int), .int .i64 0, .int .i64 (e:Int)]
def vJ (r:Lex.jQ) (i:Nat) (w:World) (e:Ending) (w':World):Prop:=e= .returned (jv r i)/\Below w.heap.size w w'
theorem ML {fn:Func} {R:Ending->World->Prop} {tmps:Array Value} {W:World} {b:Nat} {v0 v1 v2 v3 v4 v5:Value} (hfn:fn.results= #[.cell 4 207])
  (ht:tmps.getD 4 undef= .pointer (some ⟨b,0,none⟩)) (hB:aj W b 207 #[v0,v1,v2,v3,v4,v5]) (hR:R (.returned (.agg #[v0,v1,v2,v3,v4,v5])) W):
  bodyPost Tryz.prog fn R .ret {tmps:=tmps,defers:= []} W:=by
 have c0:=hB.cell 0;have c1:=hB.cell 1;have c2:=hB.cell 2;have c3:=hB.cell 3
 have c4:=hB.cell 4;have c5:=hB.cell 5;simp at c0 c1 c2 c3 c4 c5
 refine bodyPost_ret (v:= .agg #[v0,v1,v2,v3,v4,v5]) ?_ rfl hR;simp at ht
 simp [results,hfn,go_sem,ht,c0,c1,c2,c3,c4,c5]
theorem aj.cast {W:World} {g:Nat} {T:TypeId} {cs cs':Array Value} (h:aj W g T cs) (e:cs=cs'):aj W g T cs':=e▸h
theorem Fp (i e0:Int) (w:World):
  Calls Tryz.prog 204 #[.int .i64 i, .int .i64 e0] w fun e w'=>e= .returned (.agg #[.int .i64 0, .string ⟨#[]⟩, .int .i64 0, .int .i64 i, .int .i64 0, .int .i64 e0])/\Below w.heap.size w w':=by
 go_enter Tryz.func204,Tryz.ntmps204;go_wp2
 exact bodyPost_ret (v:= .agg #[.int .i64 0, .string ⟨#[]⟩, .int .i64 0, .int .i64 i, .int .i64 0, .int .i64 e0]) (by simp [results,Tryz.results204,go_sem]) rfl ⟨rfl,(Below.refl _ _).alloc (ab1 _) _⟩
theorem jK {W:World} {b:Nat} {v0 v1 v2 v3 v4 v5:Value} (h:aj W b 207 #[v0,v1,v2,v3,v4,v5]):
  W.cell? ⟨b,0,none⟩=some v0/\W.cell? ⟨b,1,none⟩=some v1/\W.cell? ⟨b,2,none⟩=some v2/\W.cell? ⟨b,3,none⟩=some v3/\W.cell? ⟨b,4,none⟩=some v4/\W.cell? ⟨b,5,none⟩=some v5/\
  W.frozen? ⟨b,0,none⟩=false/\W.frozen? ⟨b,1,none⟩=false/\W.frozen? ⟨b,2,none⟩=false/\W.frozen? ⟨b,3,none⟩=false/\W.frozen? ⟨b,4,none⟩=false/\W.frozen? ⟨b,5,none⟩=false:=
 ⟨h.cell 0,h.cell 1,h.cell 2,h.cell 3,h.cell 4,h.cell 5,h.frozen 0,h.frozen 1,h.frozen 2,h.frozen 3,h.frozen 4,h.frozen 5⟩
theorem qC {fn:Func} {r:Lex.jQ} {i:Nat} {w W:World} {tmps:Array Value} {u0 u1 u2 u3 u4 u5 v0 v1 v2 v3 v4 v5:Value} (hfn:fn.results= #[.cell 4 207])
  (ht:tmps.getD 4 undef= .pointer (some ⟨w.heap.size,0,none⟩)) (hB:aj W w.heap.size 207 #[u0,u1,u2,u3,u4,u5]) (hb:Below w.heap.size w W) (hv:jv r i= .agg #[v0,v1,v2,v3,v4,v5]):
  bodyPost Tryz.prog fn (vJ r i w) .ret {tmps:=tmps,defers:= []} ((((((W.setCell ⟨w.heap.size,0,none⟩ v0).setCell ⟨w.heap.size,1,none⟩ v1).setCell ⟨w.heap.size,2,none⟩ v2).setCell ⟨w.heap.size,3,none⟩ v3).setCell ⟨w.heap.size,4,none⟩ v4).setCell ⟨w.heap.size,5,none⟩ v5):=by
 have hb0:Below w.heap.size w (W.setCell ⟨w.heap.size,0,none⟩ v0):=hb.setCell (ab1 _) _
 have hb1:=hb0.setCell (p:=⟨w.heap.size,1,none⟩) (ab1 _) v1
 have hb2:=hb1.setCell (p:=⟨w.heap.size,2,none⟩) (ab1 _) v2
 have hb3:=hb2.setCell (p:=⟨w.heap.size,3,none⟩) (ab1 _) v3
 have hb4:=hb3.setCell (p:=⟨w.heap.size,4,none⟩) (ab1 _) v4
 have hb5:=hb4.setCell (p:=⟨w.heap.size,5,none⟩) (ab1 _) v5
 refine ML (b:=w.heap.size) (v0:=v0) (v1:=v1) (v2:=v2) (v3:=v3) (v4:=v4) (v5:=v5) hfn ht ?_ ⟨by rw [hv],hb5⟩
 exact aj.cast ((((((hB.aS 0 v0).aS 1 v1).aS 2 v2).aS 3 v3).aS 4 v4).aS 5 v5) (by simp)
theorem Ii (s:ByteArray) (i n:Nat):(s.extract i (i+n)).data.toList=(s.data.toList.drop i).take n:=by
 rw [Lib.extract_data,akD]
theorem agd (s:ByteArray) (i:Nat) (w:World) (hs:s.size<=1073741824) (hi:i<=s.size):
  Calls Tryz.prog 199 #[.string s, .int .i64 i] w (vJ (.tok 1 ((s.data.toList.drop i).take (Lex.run Lex.bV (s.data.toList.drop i))) 0 (Lex.run Lex.bV (s.data.toList.drop i))) i w):=by
 have hr:=fun (W:World)=>af0 s i W hs hi
 have hl:=Lex.Fg Lex.bV (s.data.toList.drop i);rw [acM,<-Lib.size_eq] at hl
 obtain ⟨n,hn⟩: ∃n,Lex.run Lex.bV (s.data.toList.drop i)=n:=⟨_,rfl⟩;rw [hn] at hr hl⊢
 obtain ⟨z,hz⟩: ∃z,s.extract i (i+n)=z:=⟨_,rfl⟩
 have hzl:(⟨((s.data.toList.drop i).take n).toArray⟩:ByteArray)=z:=by rw [<-hz,<-Ii]
 obtain ⟨j,hj⟩: ∃j,i+n=j:=⟨_,rfl⟩;rw [hj] at hr hz
 have htok:jv (.tok 1 ((s.data.toList.drop i).take n) 0 n) i= .agg #[.int .i64 1, .string z, .int .i64 0, .int .i64 i, .int .i64 j, .int .i64 0]:=by
  simp only [jv];rw [hzl,hj];rfl
 have HT:=ah htok;have hjs:j<=s.size:=by omega
 have hij:i<=j:=by omega
 have ji:(j:Int)<=1073741824:=by omega
 have HR:=ah hr;clear hr hj hn hl hzl htok;go_enter Tryz.func199,Tryz.ntmps199
 go_wp2_with fail;refine (HR.out _).mono ?_;rintro e w' ⟨rfl,rfl⟩;go_wp2
 exact bodyPost_ret (v:= .agg #[.int .i64 1, .string z, .int .i64 0, .int .i64 i, .int .i64 j, .int .i64 0]) (by simp [results,Tryz.results199,go_sem]) rfl ⟨by rw [HT.out],(Below.refl _ _).alloc (ab1 _) _⟩
theorem agf (l:List UInt8):Lib.trimPrefix l [45]=Lex.yV l:=L8 l
theorem agh (b:Nat) (h:b<18446744073709551616):IntKind.i64.wrap (b:Int)=Lex.int64 b:=by
 rw [IntKind.wrap_i64];unfold Lex.int64
 split<;> omega
theorem agi {l:List UInt8} {b:Nat} (h:Num.parse l=some b):b<18446744073709551616:=(Num.Qb h).2.1
theorem Ba {w w1:World} (kk:Int) (i j:Nat) (hb:Below ((w.alloc (.cells #[.int .i64 0, .string ⟨#[]⟩, .int .i64 0, .int .i64 0, .int .i64 0, .int .i64 0] 207)).alloc (.cells #[.int .i64 kk, .string ⟨#[]⟩, .int .i64 0, .int .i64 i, .int .i64 j, .int .i64 0] 207)).heap.size ((w.alloc (.cells #[.int .i64 0, .string ⟨#[]⟩, .int .i64 0, .int .i64 0, .int .i64 0, .int .i64 0] 207)).alloc (.cells #[.int .i64 kk, .string ⟨#[]⟩, .int .i64 0, .int .i64 i, .int .i64 j, .int .i64 0] 207)) w1):
  aj w1 w.heap.size 207 #[.int .i64 0, .string ⟨#[]⟩, .int .i64 0, .int .i64 0, .int .i64 0, .int .i64 0]/\aj w1 (w.heap.size+1) 207 #[.int .i64 kk, .string ⟨#[]⟩, .int .i64 0, .int .i64 i, .int .i64 j, .int .i64 0]:=by
 have h1:=(aj.new w 207 #[.int .i64 0, .string ⟨#[]⟩, .int .i64 0, .int .i64 0, .int .i64 0, .int .i64 0]).alloc (.cells #[.int .i64 kk, .string ⟨#[]⟩, .int .i64 0, .int .i64 i, .int .i64 j, .int .i64 0] 207)
 have h2:=aj.new (w.alloc (.cells #[.int .i64 0, .string ⟨#[]⟩, .int .i64 0, .int .i64 0, .int .i64 0, .int .i64 0] 207)) 207 #[.int .i64 kk, .string ⟨#[]⟩, .int .i64 0, .int .i64 i, .int .i64 j, .int .i64 0]
 rw [World.size_alloc] at h2;exact ⟨h1.below hb h1.lt,h2.below hb h2.lt⟩
theorem agj (s:ByteArray) (i:Nat) (w:World) (hs:s.size<=1073741824) (hi:i<s.size) (hL:Laid w):
  Calls Tryz.prog 201 #[.string s, .int .i64 i] w (vJ (Lex.nH ((s.data.toList.drop i).take (1+Lex.run Lex.gW (s.data.toList.drop (i+1))))) i w):=by
 have hr:=fun (W:World)=>af2 s (i+1) W hs hi
 have hl:=Lex.Fg Lex.gW (s.data.toList.drop (i+1));rw [acM,<-Lib.size_eq] at hl
 obtain ⟨n,hn⟩: ∃n,Lex.run Lex.gW (s.data.toList.drop (i+1))=n:=⟨_,rfl⟩;rw [hn] at hr hl⊢
 obtain ⟨z,hz⟩: ∃z,s.extract i (i+(1+n))=z:=⟨_,rfl⟩
 have hzl:z.data.toList=(s.data.toList.drop i).take (1+n):=by rw [<-hz,Ii]
 have ab4:z.data.toList.length=1+n:=by rw [hzl,acW,acM,<-Lib.size_eq];omega
 rw [<-hzl];obtain ⟨j,hj⟩: ∃j,i+(1+n)=j:=⟨_,rfl⟩;rw [hj] at hz
 rw [show i+1+n=j by omega,show ((i+1:Nat):Int)=(i:Int)+1 by omega] at hr
 have hjs:j<=s.size:=by omega
 have hij:i<=j:=by omega
 have ji:(j:Int)<=1073741824:=by omega
 have ii:(i:Int)<=1073741824:=by omega
 have hzs:z.size<=1073741824:=by rw [Lib.size_eq,ab4];omega
 have hpf:=fun (W:World) (hb:Below w.heap.size w W)=>agc z W hzs (hL.below hb)
 have hpi:=fun (W:World) (hb:Below w.heap.size w W)=>X6 z W hzs (hL.below hb)
 have htr:=fun (W:World)=>(Tryz.strings_TrimPrefix z ⟨#[45]⟩ W).mono fun e w' (h:_/\w'=W)=>(⟨h.1,h.2.symm⟩:_/\W=w')
 have e45:(⟨#[45]⟩:ByteArray).data.toList= [45]:=rfl;rw [e45,agf] at htr
 obtain ⟨y,hy⟩: ∃y:ByteArray,(⟨(Lex.yV z.data.toList).toArray⟩:ByteArray)=y:=⟨_,rfl⟩
 have N7:=fun (W:World)=>(Tryz.strings_HasPrefix y ⟨#[48,120]⟩ W).mono fun e w' (h:_/\w'=W)=>(⟨h.1,h.2.symm⟩:_/\W=w')
 have e0x:(⟨#[48,120]⟩:ByteArray).data.toList= [48,120]:=rfl
 have vZ:y.data.toList=Lex.yV z.data.toList:=by rw [<-hy]
 rw [e0x,vZ] at N7;rw [hy] at htr
 obtain ⟨v,hv⟩: ∃v,Lib.hasPrefix (Lex.yV z.data.toList) [48,120]=v:=⟨_,rfl⟩;rw [hv] at N7
 obtain ⟨zn,hzn⟩: ∃x,z.data.toList.length=x:=⟨_,rfl⟩;have hzj:i+zn=j:=by omega
 have hbase:=fun (kk:Int)=>(show Below w.heap.size w ((w.alloc (.cells #[.int .i64 0, .string ⟨#[]⟩, .int .i64 0, .int .i64 0, .int .i64 0, .int .i64 0] 207)).alloc (.cells #[.int .i64 kk, .string ⟨#[]⟩, .int .i64 0, .int .i64 i, .int .i64 j, .int .i64 0] 207)) from ((Below.refl _ _).alloc (ab1 _) _).alloc (by simp) _)
 have HR:=ah hr;have mV:=ah hpf;have DR:=ah hpi;have mP:=ah htr;have wo:=ah N7
 have HZJ:=ah hzj;have uH:=ah hbase;have hfl:=fun (a b:Int) (W:World)=>Fp a b W
 have qP:=ah hfl;clear hr hpf hpi htr N7 hy vZ e45 e0x ab4 hzl hj hn hL hzj hbase hl hfl
 cases v with
 | true=>
  have hnt:Lex.nH z.data.toList=match Num.parse z.data.toList with | some b=> .tok 3 [] (Lex.int64 b) z.data.toList.length | none=> .err 0 52:=by
   unfold Lex.nH;rw [ab7 hv];cases Num.parse z.data.toList<;> rfl
  rw [hnt,hzn];clear hv hnt;cases hp:Num.parse z.data.toList with
  | some b=>
   show Calls _ _ _ _ (vJ (.tok 3 [] (Lex.int64 b) zn) i w)
   have hwr:=agh b (agi hp);have hcall:=mV.out;rw [hp] at hcall;have HC:=ah hcall
   obtain ⟨q,hq⟩: ∃q,Lex.int64 b=q:=⟨_,rfl⟩;rw [hq] at hwr⊢
   have ht:jv (.tok 3 [] q zn) i= .agg #[.int .i64 3, .string ⟨#[]⟩, .int .i64 q, .int .i64 i, .int .i64 j, .int .i64 0]:=by
    simp only [jv,HZJ.out];rfl
   have HT:=ah ht;clear hcall hp hq mV DR ht;go_enter Tryz.func201,Tryz.ntmps201
   go_wp2_with fail;refine (HR.out _).mono ?_;rintro e w' ⟨rfl,rfl⟩;go_wp2_with fail
   refine (mP.out _).mono ?_;rintro e w' ⟨rfl,rfl⟩;go_wp2_with fail
   refine (wo.out _).mono ?_;rintro e w' ⟨rfl,rfl⟩;go_wp2_with fail
   refine (HC.out _ (uH.out _)).mono ?_;rintro e w1 ⟨rfl,hb⟩
   have hz:w.heap.size+1<w1.heap.size:=by have:=hb.size;simp at this;omega
   have HB:=ah ((uH.out _).trans (hb.mono (uH.out _).size));have HK:=ah (Ba 0 i j hb).1
   have HT1:=ah (Ba 0 i j hb).2;obtain ⟨g0,g1,g2,g3,g4,g5,f0,f1,f2,f3,f4,f5⟩:=jK HK.out
   obtain ⟨k0,k1,k2,k3,k4,k5,e0,e1,e2,e3,e4,e5⟩:=jK HT1.out;clear hb;go_wp2
   exact qC Tryz.results201 rfl ((((HK.out.far (by simp) _).far (by simp) _).far (by simp) _)) (((HB.out.setCell (by simp) _).setCell (by simp) _).setCell (by simp) _) HT.out
  | none=>
   show Calls _ _ _ _ (vJ (.err 0 52) i w)
   have hcall:=mV.out;rw [hp] at hcall;have HC:=ah hcall
   have ht:jv (.err 0 52) i= .agg #[.int .i64 0, .string ⟨#[]⟩, .int .i64 0, .int .i64 i, .int .i64 0, .int .i64 52]:=by
    simp only [jv,akz];rfl
   have HT:=ah ht;clear hcall hp mV DR ht;go_enter Tryz.func201,Tryz.ntmps201
   go_wp2_with fail;refine (HR.out _).mono ?_;rintro e w' ⟨rfl,rfl⟩;go_wp2_with fail
   refine (mP.out _).mono ?_;rintro e w' ⟨rfl,rfl⟩;go_wp2_with fail
   refine (wo.out _).mono ?_;rintro e w' ⟨rfl,rfl⟩;go_wp2_with fail
   refine (HC.out _ (uH.out _)).mono ?_;rintro e w1 ⟨rfl,hb⟩
   have hz:w.heap.size+1<w1.heap.size:=by have:=hb.size;simp at this;omega
   have HB:=ah ((uH.out _).trans (hb.mono (uH.out _).size));have HK:=ah (Ba 0 i j hb).1
   have HT1:=ah (Ba 0 i j hb).2;obtain ⟨g0,g1,g2,g3,g4,g5,f0,f1,f2,f3,f4,f5⟩:=jK HK.out
   obtain ⟨k0,k1,k2,k3,k4,k5,e0,e1,e2,e3,e4,e5⟩:=jK HT1.out;clear hb;go_wp2_with fail
   refine (qP.out _ _ _).mono ?_;rintro e w2 ⟨rfl,hb2⟩
   have hz2:w.heap.size+1<w2.heap.size:=by have:=hb2.size;simp at this;omega
   have aC:=ah (aj.below (((HK.out.far (by simp) _).far (by simp) _).far (by simp) _) hb2 (by simp;omega))
   clear g0 g1 g2 g3 g4 g5 f0 f1 f2 f3 f4 f5 k0 k1 k2 k3 k4 k5 e0 e1 e2 e3 e4 e5
   obtain ⟨g0,g1,g2,g3,g4,g5,f0,f1,f2,f3,f4,f5⟩:=jK aC.out
   have HB2:=ah (Below.trans (((HB.out.setCell (by simp) _).setCell (by simp) _).setCell (by simp) _) (hb2.mono (by simp;omega)))
   clear hb2;go_wp2;exact qC Tryz.results201 rfl aC.out HB2.out HT.out
 | false=>
  have hnt:Lex.nH z.data.toList=if (Num.fQ z.data.toList).2=0 then .tok 2 [] (Num.fQ z.data.toList).1 z.data.toList.length else .err 0 (Num.fQ z.data.toList).2:=by
   unfold Lex.nH;rw [ab6 (by rw [hv];decide)]
  rw [hnt,hzn];clear hv hnt;obtain ⟨x,hx⟩: ∃x,Num.fQ z.data.toList=x:=⟨_,rfl⟩
  have hcall:=DR.out;rw [hx] at hcall⊢;obtain ⟨q,k⟩:=x;have HC:=ah hcall;by_cases hk:k=0
  ·subst hk
   rw [ab7 rfl]
   have ht:jv (.tok 2 [] q zn) i= .agg #[.int .i64 2, .string ⟨#[]⟩, .int .i64 q, .int .i64 i, .int .i64 j, .int .i64 0]:=by
    simp only [jv,HZJ.out];rfl
   have HT:=ah ht;clear hcall hx mV DR ht;go_enter Tryz.func201,Tryz.ntmps201
   go_wp2_with fail;refine (HR.out _).mono ?_;rintro e w' ⟨rfl,rfl⟩;go_wp2_with fail
   refine (mP.out _).mono ?_;rintro e w' ⟨rfl,rfl⟩;go_wp2_with fail
   refine (wo.out _).mono ?_;rintro e w' ⟨rfl,rfl⟩;go_wp2_with fail
   refine (HC.out _ (uH.out _)).mono ?_;rintro e w1 ⟨rfl,hb⟩
   have hz:w.heap.size+1<w1.heap.size:=by have:=hb.size;simp at this;omega
   have HB:=ah ((uH.out _).trans (hb.mono (uH.out _).size));have HK:=ah (Ba 2 i j hb).1
   have HT1:=ah (Ba 2 i j hb).2;obtain ⟨g0,g1,g2,g3,g4,g5,f0,f1,f2,f3,f4,f5⟩:=jK HK.out
   obtain ⟨k0,k1,k2,k3,k4,k5,e0,e1,e2,e3,e4,e5⟩:=jK HT1.out;clear hb;go_wp2
   exact qC Tryz.results201 rfl (((HK.out.far (by simp) _).far (by simp) _)) ((HB.out.setCell (by simp) _).setCell (by simp) _) HT.out
  rw [ab6 hk]
  have ht:jv (.err 0 k) i= .agg #[.int .i64 0, .string ⟨#[]⟩, .int .i64 0, .int .i64 i, .int .i64 0, .int .i64 k]:=by
   simp only [jv,akz]
  have HT:=ah ht;have hk1:((k:Int) !=0)=true:=by rw [acV];omega
  clear hcall hx mV DR ht;go_enter Tryz.func201,Tryz.ntmps201;go_wp2_with fail
  refine (HR.out _).mono ?_;rintro e w' ⟨rfl,rfl⟩;go_wp2_with fail
  refine (mP.out _).mono ?_;rintro e w' ⟨rfl,rfl⟩;go_wp2_with fail
  refine (wo.out _).mono ?_;rintro e w' ⟨rfl,rfl⟩;go_wp2_with fail
  refine (HC.out _ (uH.out _)).mono ?_;rintro e w1 ⟨rfl,hb⟩
  have hz:w.heap.size+1<w1.heap.size:=by have:=hb.size;simp at this;omega
  have HB:=ah ((uH.out _).trans (hb.mono (uH.out _).size));have HK:=ah (Ba 2 i j hb).1
  have HT1:=ah (Ba 2 i j hb).2;obtain ⟨g0,g1,g2,g3,g4,g5,f0,f1,f2,f3,f4,f5⟩:=jK HK.out
  obtain ⟨k0,k1,k2,k3,k4,k5,e0,e1,e2,e3,e4,e5⟩:=jK HT1.out;clear hb;go_wp2_with fail
  refine (qP.out _ _ _).mono ?_;rintro e w2 ⟨rfl,hb2⟩
  have hz2:w.heap.size+1<w2.heap.size:=by have:=hb2.size;simp at this;omega
  have aC:=ah (aj.below ((HK.out.far (by simp) _).far (by simp) _) hb2 (by simp;omega))
  clear g0 g1 g2 g3 g4 g5 f0 f1 f2 f3 f4 f5 k0 k1 k2 k3 k4 k5 e0 e1 e2 e3 e4 e5
  obtain ⟨g0,g1,g2,g3,g4,g5,f0,f1,f2,f3,f4,f5⟩:=jK aC.out
  have HB2:=ah (Below.trans ((HB.out.setCell (by simp) _).setCell (by simp) _) (hb2.mono (by simp;omega)))
  clear hb2;go_wp2;exact qC Tryz.results201 rfl aC.out HB2.out HT.out
theorem y7 (b off j:Nat):(⟨b,off,none⟩:Addr).add j=⟨b,off+j,none⟩:=by
 unfold Addr.add
 split<;> simp_all
section
variable {P:Program} (w:World)
theorem agk (base:Nat) (t ty e:TypeId) (i:TypeInfo) (size:Nat) (ht:P.underlying t=some (.slice e)) (hi:P.info? e=some i)
  (v:Value) (n:Nat) (xs:List Value) (hown:w.ownsRow base e size v n xs) (c:Nat):(Builtin.append_ #[t,t] ty #[v, .slice none 0 c]).run P w= .ok v w:=by
 rcases hown.2 with ⟨rfl,rfl⟩ |⟨g,cap,cur,rfl,_,_,hnc,_⟩
 ·simp [Builtin.append_,run_underlying ht,sizeOf,typeInfo,hi,Builtin.lenOf,Builtin.firstCells]
 simp [Builtin.append_,run_underlying ht,sizeOf,typeInfo,hi,Builtin.lenOf,Builtin.firstCells,hnc,storeCells]
theorem agl (base:Nat) (t ty e:TypeId) (i:TypeInfo) (z:Value) (size bytes:Nat) (ht:P.underlying t=some (.slice e)) (hi:P.info? e=some i) (hz:i.zero=some z)
  (hsize:i.size=size) (hby:i.bytes=bytes) (hzs:z.cells.size=size) (hsz:0<size)
  (v:Value) (n:Nat) (xs:List Value) (hown:w.ownsRow base e size v n xs)
  (B:Nat) (A:Option Addr) (m c:Nat) (news:List Value) (hr:Reads w B size A m news) (h1: ∀u∈news,u.oneCell'=true)
  (h63:n+m<=maxLen) (hbytes:(n+m)*bytes<=140737488355328) (hbase:base<=w.heap.size):
  ∃v' w',(Builtin.append_ #[t,t] ty #[v, .slice A m c]).run P w= .ok v' w'/\w'.ownsRow base e size v' (n+m) (xs ++ news)/\w.grownBy w' v.ownBlock/\
   (v'.ownBlock=v.ownBlock\/v'.ownBlock=some w.heap.size):=by
 rcases A with _ | ad
 ·have hm:m=0:=by
   rcases aed m with h0 | h0
   ·exact h0
   obtain ⟨_,_,h,_⟩:=hr.2 h0;cases h
  subst hm;have hn:news= []:=acD (by simpa using hr.1)
  subst hn
  exact ⟨v,w,agk w base t ty e i size ht hi v n xs hown c,by simpa using hown,World.grownBy.refl w _, .inl rfl⟩
 have hcells: ∀j u,news[j]?=some u->w.cell? (ad.add j)=some u:=by
  intro j u hu
  rcases aed m with h0 | h0
  ·subst h0
   have hn:news= []:=acD (by simpa using hr.1)
   subst hn;simp at hu
  obtain ⟨b',off',h,_,hc⟩:=hr.2 h0;cases h;rw [y7];exact hc j u hu
 obtain ⟨v',w',hrun,h2,h3,_,h5⟩:=run_append_own_at (P:=P) w base t ty e i z size bytes ht hi hz hsize hby hzs hsz v n xs hown ad m c news hr.1 hcells h1 h63 hbytes hbase
 exact ⟨v',w',hrun,h2,h3,h5⟩
theorem QA {o:Oper} {a:Act} {K:Act->World->Prop} {Q:Exit->Act->World->Prop} (s x:Operand) (t:TypeId)
  (ho:o.op= .call {callee:= .builtin .append,args:= #[s,x],argTypes:= #[t,t]})
  (base:Nat) (e:TypeId) (i:TypeInfo) (z:Value) (size bytes:Nat) (ht:P.underlying t=some (.slice e)) (hi:P.info? e=some i) (hz:i.zero=some z)
  (hsize:i.size=size) (hby:i.bytes=bytes) (hzs:z.cells.size=size) (hsz:0<size)
  (v:Value) (n:Nat) (xs:List Value) (hs:a.eval s=v) (hown:w.ownsRow base e size v n xs)
  (B:Nat) (A:Option Addr) (m c:Nat) (news:List Value) (hx:a.eval x= .slice A m c) (hr:Reads w B size A m news) (h1: ∀u∈news,u.oneCell'=true)
  (h63:n+m<=maxLen) (hbytes:(n+m)*bytes<=140737488355328) (hbase:base<=w.heap.size)
  (h: ∀v' w',w'.ownsRow base e size v' (n+m) (xs ++ news)->w.grownBy w' v.ownBlock->(v'.ownBlock=v.ownBlock\/v'.ownBlock=some w.heap.size)->K (a.put o.dst v') w'):o.wp P a w K Q:=by
 obtain ⟨v',w',hrun,h2,h3,h4⟩:=agl (P:=P) w base t o.type e i z size bytes ht hi hz hsize hby hzs hsz v n xs hown B A m c news hr h1 h63 hbytes hbase
 unfold Oper.wp execOp
 simp only [ho,resolve,invoke,builtin,Sem.run_bind,Sem.run_pure,Result.andThen_ok,anx,adA,aek,hs,hx,hrun]
 exact h v' w' h2 h3 h4
theorem Bc {ops:Array Oper} {rest:List Oper} {o:Oper} {a:Act} {Q:Exit->Act->World->Prop} (hgd:o.guard=none) (s x:Operand) (t:TypeId)
  (ho:o.op= .call {callee:= .builtin .append,args:= #[s,x],argTypes:= #[t,t]})
  (base:Nat) (e:TypeId) (i:TypeInfo) (z:Value) (size bytes:Nat) (ht:P.underlying t=some (.slice e)) (hi:P.info? e=some i) (hz:i.zero=some z)
  (hsize:i.size=size) (hby:i.bytes=bytes) (hzs:z.cells.size=size) (hsz:0<size)
  (v:Value) (n:Nat) (xs:List Value) (hs:a.eval s=v) (hown:w.ownsRow base e size v n xs)
  (B:Nat) (A:Option Addr) (m c:Nat) (news:List Value) (hx:a.eval x= .slice A m c) (hr:Reads w B size A m news) (h1: ∀u∈news,u.oneCell'=true)
  (h63:n+m<=maxLen) (hbytes:(n+m)*bytes<=140737488355328) (hbase:base<=w.heap.size)
  (h: ∀v' w',w'.ownsRow base e size v' (n+m) (xs ++ news)->w.grownBy w' v.ownBlock->(v'.ownBlock=v.ownBlock\/v'.ownBlock=some w.heap.size)->wpList P ops Q rest (a.put o.dst v') w'):wpList P ops Q (o :: rest) a w:=
 wpList_plain hgd fun _ hK=>QA w s x t ho base e i z size bytes ht hi hz hsize hby hzs hsz v n xs hs hown B A m c news hx hr h1 h63 hbytes hbase fun v' w' h2 h3 h4=>hK _ _ (h v' w' h2 h3 h4)
end
end Go.Proofs.YtoofbflplhbpbaaGreatDoor
namespace Go.Proofs.YtoofbflplhbpbaaGreatDoor
open Go.RowKit
theorem QB:(Tryz.prog.info? 5).map (fun i=>(i.zero,i.size,i.bytes))=some (some (.int .u8 0),1,1):=by kernel_rfl
def OwnB (B:Nat) (v:Value) (l:List UInt8) (w:World):Prop:=w.ownsRow B 5 1 v l.length (Lib.byteCells l)
theorem byteCells_one (x:UInt8):Lib.byteCells [x]= [.int .u8 (x.toNat:Int)]:=by simp [Lib.byteCells]
theorem Ij (a b:List UInt8):Lib.byteCells (a ++ b)=Lib.byteCells a ++ Lib.byteCells b:=by simp [Lib.byteCells]
theorem OwnB.conv {B:Nat} {v:Value} {l:List UInt8} {w:World} (h:OwnB B v l w):(convert 55 9 v).run Tryz.prog w= .ok (.string ⟨l.toArray⟩) w:=by
 rcases h.2 with ⟨rfl,hn⟩ |⟨g,cap,cur,rfl,hb,hg,h1,h2,h3⟩
 ·have:l= []:=acD hn
  subst this
  exact run_convert_bytes_nil w 55 5 Tryz.underlying55 Tryz.underlying5 0 0 9 Tryz.underlying9
 refine run_convert_bytes_back (P:=Tryz.prog) w 55 9 5 ⟨g,0,none⟩ cap l Tryz.underlying55 Tryz.underlying5 Tryz.underlying9 (fun j hj=> ?_)
 have hr:=Reads.je (c:=cap) h;obtain ⟨b',off',u,e,_,hu,hc⟩:=hr.at_ (k:=j) hj;cases e
 rw [y7];rw [hc,<-hu];simp [Lib.byteCells,ab2 hj]
theorem OwnB.form {B:Nat} {v:Value} {l:List UInt8} {w:World} (h:OwnB B v l w): ∃A c,v= .slice A l.length c:=aJ h
theorem qE {ops:Array Oper} {rest:List Oper} {o:Oper} {a:Act} {Q:Exit->Act->World->Prop} (hgd:o.guard=none) (s x:Operand)
  (ho:o.op= .call {callee:= .builtin .append,args:= #[s,x],argTypes:= #[55,55]})
  (B:Nat) (v:Value) (l:List UInt8) (W:World) (hs:a.eval s=v) (h:OwnB B v l W) (bs:List UInt8) (us:List Value) (hu:us=Lib.byteCells bs) (m:Nat) (hm:bs.length=m)
  (hx:a.eval x= .slice (some ⟨W.heap.size,0,none⟩) m m) (hl:l.length<1073741824) (hm2:m<1073741824) (hB:B<=W.heap.size)
  (k: ∀v' w',OwnB B v' (l ++ bs) w'->W.grownBy w' v.ownBlock->Below B W w'->wpList Tryz.prog ops Q rest (a.put o.dst v') w'):
  wpList Tryz.prog ops Q (o :: rest) a (W.alloc (.cells us.toArray 5)):=by
 obtain ⟨i0,hi,hz0,hz1,hz2⟩:=info_parts QB;subst hu
 refine wpList_append_own _ hgd s x 55 ho B 5 i0 (.int .u8 0) 1 1 Tryz.underlying55 hi hz0 hz1 hz2 rfl (by decide) v l.length (Lib.byteCells l) hs (World.ownsRow.alloc h _) ⟨W.heap.size,0,none⟩ m m (Lib.byteCells bs) hx ?c0 ?c1 ?c2 ?c3 ?c4 ?c5 ?_
 case c0=>simp [Lib.byteCells,hm]
 case c1=>
  intro j u hj;rw [y7];have:=(aj.new W 5 (Lib.byteCells bs).toArray).cell (0+j);rw [this]
  simpa using hj
 case c2=>intro u hu;simp only [Lib.byteCells,ad5] at hu;obtain ⟨_,_,rfl⟩:=hu;rfl
 case c3=>unfold maxLen;omega
 case c4=>omega
 case c5=>simp;omega
 intro v' w' hown hgr _;refine k v' w' ?_ ?_ ?_
 ·unfold OwnB
  rw [Ij,dA,hm];exact hown
 ·exact dU (vH (fO W _) _) hgr
 exact ((Below.refl B W).alloc hB _).grown hgr (by simp;omega) (fun j e=>(World.ownsRow.lt h j e).1)
theorem rP {ops:Array Oper} {rest:List Oper} {o:Oper} {a:Act} {Q:Exit->Act->World->Prop} (hgd:o.guard=none) (s x:Operand) (T e:TypeId) (z:Value) (bytes:Nat)
  (hT:Tryz.prog.underlying T=some (.slice e)) (hinfo:(Tryz.prog.info? e).map (fun i=>(i.zero,i.size,i.bytes))=some (some z,1,bytes)) (hz:z.cells.size=1) (hby:bytes<=24)
  (ho:o.op= .call {callee:= .builtin .append,args:= #[s,x],argTypes:= #[T,T]})
  (B:Nat) (v:Value) (n:Nat) (xs:List Value) (W:World) (hs:a.eval s=v) (h:W.ownsRow B e 1 v n xs) (u:Value) (hu:u.oneCell'=true)
  (hx:a.eval x= .slice (some ⟨W.heap.size,0,none⟩) 1 1) (hl:n<1073741824) (hB:B<=W.heap.size)
  (k: ∀v' w',w'.ownsRow B e 1 v' (n+1) (xs ++ [u])->W.grownBy w' v.ownBlock->(v'.ownBlock=v.ownBlock\/ ∃g,v'.ownBlock=some g/\W.heap.size<=g)->Below B W w'->wpList Tryz.prog ops Q rest (a.put o.dst v') w'):
  wpList Tryz.prog ops Q (o :: rest) a (W.alloc (.cells #[u] e)):=by
 obtain ⟨i0,hi,hz0,hz1,hz2⟩:=info_parts hinfo
 refine wpList_append_own_at _ hgd s x T ho B e i0 z 1 bytes hT hi hz0 hz1 hz2 hz (by decide) v n xs hs (World.ownsRow.alloc h _) ⟨W.heap.size,0,none⟩ 1 1 [u] hx rfl ?c1 ?c2 ?c3 ?c4 ?c5 ?_
 case c1=>exact cell_one_new _ _ _
 case c2=>intro y hy;rw [adg.1 hy];exact hu
 case c3=>unfold maxLen;omega
 case c4=>
  have:(n+1)*bytes<=1073741824*24:=alj (by omega) hby
  omega
 case c5=>simp;omega
 intro v' w' hown hgr _ hwh
 refine k v' w' hown (dU (vH (fO W _) _) hgr) (hwh.imp id (fun h=>⟨_,h,by simp⟩)) ?_
 exact ((Below.refl B W).alloc hB _).grown hgr (by simp;omega) (fun j e=>(World.ownsRow.lt h j e).1)
theorem Yr (w:World) (xs:List Value) (t:TypeId): ∀(j:Nat) u,xs[j]?=some u->(w.alloc (.cells xs.toArray t)).cell? ((⟨w.heap.size,0,none⟩:Addr).add j)=some u:=by
 intro j u h;rw [y7,akA];have:=(aj.new w t xs.toArray).cell j;rw [this]
 simpa using h
theorem Yt {ops:Array Oper} {rest:List Oper} {o:Oper} {a:Act} {Q:Exit->Act->World->Prop} (hgd:o.guard=none) (s x:Operand) (T e:TypeId) (z:Value) (sz bytes:Nat)
  (hT:Tryz.prog.underlying T=some (.slice e)) (hinfo:(Tryz.prog.info? e).map (fun i=>(i.zero,i.size,i.bytes))=some (some z,sz,bytes)) (hz:z.cells.size=sz) (hsz:0<sz) (hby:bytes<=200)
  (ho:o.op= .call {callee:= .builtin .append,args:= #[s,x],argTypes:= #[T,T]})
  (B:Nat) (v:Value) (n:Nat) (xs:List Value) (W:World) (hs:a.eval s=v) (h:W.ownsRow B e sz v n xs) (news:List Value) (cs:Array Value) (hcs:cs=news.toArray) (hnl:news.length=sz) (hu: ∀u∈news,u.oneCell'=true)
  (hx:a.eval x= .slice (some ⟨W.heap.size,0,none⟩) 1 1) (hl:n<536870912) (hB:B<=W.heap.size)
  (k: ∀v' w',w'.ownsRow B e sz v' (n+1) (xs ++ news)->W.grownBy w' v.ownBlock->(v'.ownBlock=v.ownBlock\/ ∃g,v'.ownBlock=some g/\W.heap.size<=g)->Below B W w'->wpList Tryz.prog ops Q rest (a.put o.dst v') w'):
  wpList Tryz.prog ops Q (o :: rest) a (W.alloc (.cells cs e)):=by
 subst hcs;obtain ⟨i0,hi,hz0,hz1,hz2⟩:=info_parts hinfo
 refine wpList_append_own_at _ hgd s x T ho B e i0 z sz bytes hT hi hz0 hz1 hz2 hz hsz v n xs hs (World.ownsRow.alloc h _) ⟨W.heap.size,0,none⟩ 1 1 news hx (by omega) ?c1 ?c2 ?c3 ?c4 ?c5 ?_
 case c1=>exact Yr _ _ _
 case c2=>exact hu
 case c3=>unfold maxLen;omega
 case c4=>
  have:(n+1)*bytes<=536870912*200:=alj (by omega) hby
  omega
 case c5=>simp;omega
 intro v' w' hown hgr _ hwh
 refine k v' w' hown (dU (vH (fO W _) _) hgr) (hwh.imp id (fun h=>⟨_,h,by simp⟩)) ?_
 exact ((Below.refl B W).alloc hB _).grown hgr (by simp;omega) (fun j e=>(World.ownsRow.lt h j e).1)
def I64 (n:Int):Value:= .int .i64 n
def ST (t:List UInt8):Value:= .string ⟨t.toArray⟩
structure jR (W:World) (B:Nat) (u:Value) (v:ak.V):Prop where
 ex: ∃An cn At ct,u= .agg #[.int .i64 v.kind, .int .i64 v.num, .string ⟨v.text.toArray⟩, .slice An v.nums.length cn, .slice At v.texts.length ct]/\Reads W B 1 An v.nums.length (v.nums.map I64)/\Reads W B 1 At v.texts.length (v.texts.map ST)
 kin:ak.In64 v.kind
 num:ak.In64 v.num
 nums: ∀n∈v.nums,ak.In64 n
 tl:v.text.length<=1073741824
 nl:v.nums.length<=1073741824
 sl:v.texts.length<=1073741824
 sz: ∀t∈v.texts,t.length<=1073741824
theorem jR.below {W W':World} {B:Nat} {u:Value} {v:ak.V} (h:jR W B u v) (hb:Below B W W'):jR W' B u v:=by
 obtain ⟨An,cn,At,ct,e,h1,h2⟩:=h.ex
 exact ⟨⟨An,cn,At,ct,e,h1.below hb,h2.below hb⟩,h.kin,h.num,h.nums,h.tl,h.nl,h.sl,h.sz⟩
theorem Ik (n:Int):IntKind.u64.wrap n=(ak.u64 n:Int):=by
 rw [IntKind.wrap_u64];unfold ak.u64;omega
theorem agm (n:Int):ak.yT n=(((((ak.u64 n / 4503599627370496) % 2048:Nat):Int) == 2047) &&(((ak.u64 n % 4503599627370496:Nat):Int) !=0) &&((ak.u64 n:Int) !=9221120237041090560)):=by
 unfold ak.yT;have h:=ak.AV n;obtain ⟨b,hb⟩: ∃b,ak.u64 n=b:=⟨_,rfl⟩;rw [hb] at h⊢;rw [alp]
 simp only [adr,acZ,adp,acV,ne_eq];omega
theorem Yu (k n:Int) (w:World) (hk:ak.In64 k) (hn:ak.In64 n):
  Calls Tryz.prog 28 #[.int .i64 k, .int .i64 n] w fun e w'=>e= .returned (.int .i64 (ak.eY k n:Nat))/\w=w':=by
 obtain ⟨R,hR⟩: ∃R,ak.eY k n=R:=⟨_,rfl⟩;rw [hR];unfold ak.eY at hR;obtain ⟨hk1,hk2⟩:=hk
 obtain ⟨hn1,hn2⟩:=hn;by_cases h1:k=1
 ·subst h1
  by_cases h0:n=0
  ·subst h0
   rw [ab6 (by omega),ab6 (by omega)] at hR
   subst hR;go_enter Tryz.func28,Tryz.ntmps28;go_wp2;go_ret;exact ⟨rfl,rfl⟩
  by_cases h01:n=1
  ·subst h01
   rw [ab6 (by omega),ab6 (by omega)] at hR
   subst hR;go_enter Tryz.func28,Tryz.ntmps28;go_wp2;go_ret;exact ⟨rfl,rfl⟩
  rw [ab7 ⟨rfl,h0,h01⟩] at hR;subst hR;have t0:(n !=0)=true:=acV.2 h0
  have t1:(n !=1)=true:=acV.2 h01;clear h0 h01 hk1 hk2 hn1 hn2
  go_enter Tryz.func28,Tryz.ntmps28;go_wp2;go_ret;exact ⟨rfl,rfl⟩
 have t0:(k == 1)=false:=ab3.2 h1;by_cases h3:k=3
 ·subst h3
  rw [ab6 (by omega)] at hR
  have hw:=Ik n;have hnr:=agm n;have hb:=ak.AV n;obtain ⟨b,hbb⟩: ∃b,ak.u64 n=b:=⟨_,rfl⟩
  rw [hbb] at hw hnr hb
  obtain ⟨E,hE⟩: ∃E,(((b / 4503599627370496 % 2048:Nat):Int) == 2047)=E:=⟨_,rfl⟩
  obtain ⟨F,hF⟩: ∃F,(((b % 4503599627370496:Nat):Int) !=0)=F:=⟨_,rfl⟩
  obtain ⟨G,hG⟩: ∃G,((b:Int) !=9221120237041090560)=G:=⟨_,rfl⟩;rw [hE,hF,hG] at hnr
  obtain ⟨q,hq⟩: ∃q,b / 4503599627370496=q:=⟨_,rfl⟩;obtain ⟨e,he⟩: ∃e,q % 2048=e:=⟨_,rfl⟩
  have r1:IntKind.u64.wrap ((b:Int) / 4503599627370496)=(q:Int):=by rw [IntKind.wrap_u64];omega
  have r2:((q:Int)).tmod 2048=(e:Int):=by rw [aoE (by omega)];omega
  have hE':((e:Int) == 2047)=E:=by rw [<-hE,hq,he]
  have hF':(((b:Int) % 4503599627370496) !=0)=F:=by rw [<-hF];congr 1
  have hu:=lD;have hr:R=if (E && F && G)=true then 43 else 0:=by rw [<-hR,hnr];simp
  have HR:=ah hr;have hbi:(0:Int)<=b:=by omega
  clear hR hr hE hF hnr hbb hb t0 h1 hk1 hk2 hn1 hn2 hq he;cases E with
  | false=>
   go_enter Tryz.func28,Tryz.ntmps28;go_wp2;go_ret;exact ⟨by rw [HR.out];rfl,rfl⟩
  | true=>
   cases F with
   | false=>
    go_enter Tryz.func28,Tryz.ntmps28;go_wp2;go_ret;exact ⟨by rw [HR.out];rfl,rfl⟩
   | true=>
    cases G with
    | false=>
     go_enter Tryz.func28,Tryz.ntmps28;go_wp2;go_ret;exact ⟨by rw [HR.out];rfl,rfl⟩
    | true=>
     go_enter Tryz.func28,Tryz.ntmps28;go_wp2;go_ret;exact ⟨by rw [HR.out];rfl,rfl⟩
 rw [ab6 (by omega),ab6 (by omega)] at hR
 subst hR;have t3:(k == 3)=false:=ab3.2 h3;clear h1 h3 hk1 hk2 hn1 hn2
 go_enter Tryz.func28,Tryz.ntmps28;go_wp2;go_ret;exact ⟨rfl,rfl⟩
end Go.Proofs.YtoofbflplhbpbaaGreatDoor
