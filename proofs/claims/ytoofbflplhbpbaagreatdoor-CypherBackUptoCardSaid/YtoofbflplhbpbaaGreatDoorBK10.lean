/- Contracts and plain laws,part 10. -/
import Derived.Test.YtoofbflplhbpbaaGreatDoorBK09
set_option maxHeartbeats 64000000
set_option maxRecDepth 1000000
set_option linter.all false
namespace Go.Proofs.YtoofbflplhbpbaaGreatDoor
open Go.RowKit
def jG (r:Option (UInt8×Nat)) (w:World) (e:Ending) (w':World):Prop:=
 Below w.heap.size w w'∧match r with
  | some (x,n)=>e= .returned (.tuple #[.int .u8 x.toNat, .int .i64 n, .bool true])
  | none=> ∃c n:Int,e= .returned (.tuple #[.int .u8 c, .int .i64 n, .bool false])
theorem ret3 {P:Program} {fn:Func} {R:Ending→World→Prop} {tmps:Array Value} {W:World} {a b c:Tmp} (h:fn.results= #[.tmp a, .tmp b, .tmp c]) (hR:R (.returned (.tuple #[tmps.getD a undef,tmps.getD b undef,tmps.getD c undef])) W):
  bodyPost P fn R .ret {tmps:=tmps,defers:= []} W:=
 bodyPost_ret (v:= .tuple #[tmps.getD a undef,tmps.getD b undef,tmps.getD c undef]) (by simp [results,h,go_sem]) rfl hR
theorem byte_back (c:UInt8):((c.toNat:Int)).toNat.toUInt8=c:=by simp
def jh (a:Option Nat):Int:=match a with | some d=>(d:Int) | none=> -1
theorem IV: ∀c:Fin 256,Lib.indexByte [48,49,50,51,52,53,54,55,56,57,97,98,99,100,101,102] (UInt8.ofNat c.val)=jh (Num.aX (UInt8.ofNat c.val)):=by decide+kernel
theorem y9 (c:UInt8):Lib.indexByte [48,49,50,51,52,53,54,55,56,57,97,98,99,100,101,102] c=jh (Num.aX c):=by
 have:=IV ⟨c.toNat,UInt8.toNat_lt c⟩
 simpa using this
theorem IW: ∀c:Fin 256,∀d∈Num.aX (UInt8.ofNat c.val),d<16:=by decide+kernel
theorem kT {c:UInt8} {d:Nat} (h:Num.aX c=some d):d<16:=
 IW ⟨c.toNat,UInt8.toNat_lt c⟩ d (by simpa using h)
theorem bq {c:UInt8} {k:UInt8} {n:Int} (hn:(k.toNat:Int)=n) {b:Bool} (h:(c == k)=b):((c.toNat:Int) == n)=b:=by
 rw [←h,←hn,Bool.eq_iff_iff,beq_iff_eq,beq_iff_eq,←UInt8.toNat_inj]
 omega
theorem IX {s:ByteArray} {k:Nat} (h:k<s.size):s.data.toList[k]?=some (s[k]'h):=by
 have h1:k<s.data.toList.length:=by rw [←Lib.size_eq];exact h
 rw [List.getElem?_eq_getElem h1]
 rfl
theorem IY (s:ByteArray) (w:World) (hs:s.size≤1073741824):
  Calls Tryz.prog 254 #[.string s] w (jG (Lex.esc s.data.toList) w):=by
 have hlen:=Lib.size_eq s
 rcases Nat.eq_zero_or_pos s.size with h0 | hpos
 ·have hl:s.data.toList= []:=List.eq_nil_of_length_eq_zero (by omega)
  have hsn:s.toList.isEmpty=true:=by rw [Lib.toList_data,hl];rfl
  rw [hl]
  have HE:jG (Lex.esc []) w (.returned (.tuple #[.int .u8 0, .int .i64 0, .bool false])) w:=⟨Below.refl _ _,0,0,rfl⟩
  have HH:=hq7 HE
  clear HE hl hlen
  go_enter Tryz.func254,Tryz.ntmps254
  go_wp2
  refine ret3 rfl ?_
  exact HH.out
 have hl:s.data.toList=s[0]'hpos :: s.data.toList.drop 1:=by have:=iQ hpos;rwa [List.drop_zero] at this
 have hsn:s.toList.isEmpty=false:=by rw [Lib.toList_data,hl];rfl
 have hp:(0:Int)<s.size:=by omega
 by_cases h92:s[0]'hpos=92
 ·have t92:((((s[0]'hpos).toNat:Nat):Int) == 92)=true:=bq (k:=92) rfl (by rw [h92];decide)
  have t39:((((s[0]'hpos).toNat:Nat):Int) == 39)=false:=bq (k:=39) rfl (by rw [h92];decide)
  have t110:((((s[0]'hpos).toNat:Nat):Int) == 110)=false:=bq (k:=110) rfl (by rw [h92];decide)
  have t114:((((s[0]'hpos).toNat:Nat):Int) == 114)=false:=bq (k:=114) rfl (by rw [h92];decide)
  have t116:((((s[0]'hpos).toNat:Nat):Int) == 116)=false:=bq (k:=116) rfl (by rw [h92];decide)
  have t120:((((s[0]'hpos).toNat:Nat):Int) == 120)=false:=bq (k:=120) rfl (by rw [h92];decide)
  have he:Lex.esc s.data.toList=some (92,1):=by rw [hl,h92];rfl
  rw [he]
  have HE:jG (some (92,1)) w (.returned (.tuple #[.int .u8 (s[0]'hpos).toNat, .int .i64 1, .bool true])) w:=⟨Below.refl _ _,by first | rfl |(simp only [h92];rfl)⟩
  have HH:=hq7 HE
  clear HE he hl hlen h92
  go_enter Tryz.func254,Tryz.ntmps254
  go_wp2
  refine ret3 rfl ?_
  exact HH.out
 by_cases h39:s[0]'hpos=39
 ·have t92:((((s[0]'hpos).toNat:Nat):Int) == 92)=false:=bq (k:=92) rfl (by rw [h39];decide)
  have t39:((((s[0]'hpos).toNat:Nat):Int) == 39)=true:=bq (k:=39) rfl (by rw [h39];decide)
  have t110:((((s[0]'hpos).toNat:Nat):Int) == 110)=false:=bq (k:=110) rfl (by rw [h39];decide)
  have t114:((((s[0]'hpos).toNat:Nat):Int) == 114)=false:=bq (k:=114) rfl (by rw [h39];decide)
  have t116:((((s[0]'hpos).toNat:Nat):Int) == 116)=false:=bq (k:=116) rfl (by rw [h39];decide)
  have t120:((((s[0]'hpos).toNat:Nat):Int) == 120)=false:=bq (k:=120) rfl (by rw [h39];decide)
  have he:Lex.esc s.data.toList=some (39,1):=by rw [hl,h39];rfl
  rw [he]
  have HE:jG (some (39,1)) w (.returned (.tuple #[.int .u8 (s[0]'hpos).toNat, .int .i64 1, .bool true])) w:=⟨Below.refl _ _,by first | rfl |(simp only [h39];rfl)⟩
  have HH:=hq7 HE
  clear HE he hl hlen h92 h39
  go_enter Tryz.func254,Tryz.ntmps254
  go_wp2
  refine ret3 rfl ?_
  exact HH.out
 by_cases h110:s[0]'hpos=110
 ·have t92:((((s[0]'hpos).toNat:Nat):Int) == 92)=false:=bq (k:=92) rfl (by rw [h110];decide)
  have t39:((((s[0]'hpos).toNat:Nat):Int) == 39)=false:=bq (k:=39) rfl (by rw [h110];decide)
  have t110:((((s[0]'hpos).toNat:Nat):Int) == 110)=true:=bq (k:=110) rfl (by rw [h110];decide)
  have t114:((((s[0]'hpos).toNat:Nat):Int) == 114)=false:=bq (k:=114) rfl (by rw [h110];decide)
  have t116:((((s[0]'hpos).toNat:Nat):Int) == 116)=false:=bq (k:=116) rfl (by rw [h110];decide)
  have t120:((((s[0]'hpos).toNat:Nat):Int) == 120)=false:=bq (k:=120) rfl (by rw [h110];decide)
  have he:Lex.esc s.data.toList=some (10,1):=by rw [hl,h110];rfl
  rw [he]
  have HE:jG (some (10,1)) w (.returned (.tuple #[.int .u8 10, .int .i64 1, .bool true])) w:=⟨Below.refl _ _,by first | rfl |(simp only [h110];rfl)⟩
  have HH:=hq7 HE
  clear HE he hl hlen h92 h39 h110
  go_enter Tryz.func254,Tryz.ntmps254
  go_wp2
  refine ret3 rfl ?_
  exact HH.out
 by_cases h114:s[0]'hpos=114
 ·have t92:((((s[0]'hpos).toNat:Nat):Int) == 92)=false:=bq (k:=92) rfl (by rw [h114];decide)
  have t39:((((s[0]'hpos).toNat:Nat):Int) == 39)=false:=bq (k:=39) rfl (by rw [h114];decide)
  have t110:((((s[0]'hpos).toNat:Nat):Int) == 110)=false:=bq (k:=110) rfl (by rw [h114];decide)
  have t114:((((s[0]'hpos).toNat:Nat):Int) == 114)=true:=bq (k:=114) rfl (by rw [h114];decide)
  have t116:((((s[0]'hpos).toNat:Nat):Int) == 116)=false:=bq (k:=116) rfl (by rw [h114];decide)
  have t120:((((s[0]'hpos).toNat:Nat):Int) == 120)=false:=bq (k:=120) rfl (by rw [h114];decide)
  have he:Lex.esc s.data.toList=some (13,1):=by rw [hl,h114];rfl
  rw [he]
  have HE:jG (some (13,1)) w (.returned (.tuple #[.int .u8 13, .int .i64 1, .bool true])) w:=⟨Below.refl _ _,by first | rfl |(simp only [h114];rfl)⟩
  have HH:=hq7 HE
  clear HE he hl hlen h92 h39 h110 h114
  go_enter Tryz.func254,Tryz.ntmps254
  go_wp2
  refine ret3 rfl ?_
  exact HH.out
 by_cases h116:s[0]'hpos=116
 ·have t92:((((s[0]'hpos).toNat:Nat):Int) == 92)=false:=bq (k:=92) rfl (by rw [h116];decide)
  have t39:((((s[0]'hpos).toNat:Nat):Int) == 39)=false:=bq (k:=39) rfl (by rw [h116];decide)
  have t110:((((s[0]'hpos).toNat:Nat):Int) == 110)=false:=bq (k:=110) rfl (by rw [h116];decide)
  have t114:((((s[0]'hpos).toNat:Nat):Int) == 114)=false:=bq (k:=114) rfl (by rw [h116];decide)
  have t116:((((s[0]'hpos).toNat:Nat):Int) == 116)=true:=bq (k:=116) rfl (by rw [h116];decide)
  have t120:((((s[0]'hpos).toNat:Nat):Int) == 120)=false:=bq (k:=120) rfl (by rw [h116];decide)
  have he:Lex.esc s.data.toList=some (9,1):=by rw [hl,h116];rfl
  rw [he]
  have HE:jG (some (9,1)) w (.returned (.tuple #[.int .u8 9, .int .i64 1, .bool true])) w:=⟨Below.refl _ _,by first | rfl |(simp only [h116];rfl)⟩
  have HH:=hq7 HE
  clear HE he hl hlen h92 h39 h110 h114 h116
  go_enter Tryz.func254,Tryz.ntmps254
  go_wp2
  refine ret3 rfl ?_
  exact HH.out
 by_cases h120:s[0]'hpos=120
 ·have t92:((((s[0]'hpos).toNat:Nat):Int) == 92)=false:=bq (k:=92) rfl (by rw [h120];decide)
  have t39:((((s[0]'hpos).toNat:Nat):Int) == 39)=false:=bq (k:=39) rfl (by rw [h120];decide)
  have t110:((((s[0]'hpos).toNat:Nat):Int) == 110)=false:=bq (k:=110) rfl (by rw [h120];decide)
  have t114:((((s[0]'hpos).toNat:Nat):Int) == 114)=false:=bq (k:=114) rfl (by rw [h120];decide)
  have t116:((((s[0]'hpos).toNat:Nat):Int) == 116)=false:=bq (k:=116) rfl (by rw [h120];decide)
  have t120:((((s[0]'hpos).toNat:Nat):Int) == 120)=true:=bq (k:=120) rfl (by rw [h120];decide)
  by_cases h3:s.size<3
  ·have he:Lex.esc s.data.toList=none:=by
    rw [hl,h120]
    obtain ⟨r,hr⟩: ∃r,s.data.toList.drop 1=r:=⟨_,rfl⟩
    have hrl:r.length<2:=by rw [←hr,List.length_drop];omega
    rw [hr]
    match r,hrl with
    | [],_=>rfl
    | [a],_=>rfl
   rw [he]
   have HE:jG none w (.returned (.tuple #[.int .u8 0, .int .i64 0, .bool false])) w:=⟨Below.refl _ _,0,0,rfl⟩
   have HH:=hq7 HE
   have hd3:decide (s.size<3)=true:=decide_eq_true h3
   have hd3':decide ((s.size:Int)<3)=true:=decide_eq_true (by omega)
   clear HE he hl hlen h92 h39 h110 h114 h116 h120
   go_enter Tryz.func254,Tryz.ntmps254
   go_wp2
   refine ret3 rfl ?_
   exact HH.out
  ·have q1:1<s.size:=by omega
   have q2:2<s.size:=by omega
   have i1:(1:Int)<s.size:=by omega
   have i2:(2:Int)<s.size:=by omega
   have he:Lex.esc s.data.toList=match Num.aX (s[1]'q1),Num.aX (s[2]'q2) with
     | some x,some y=>some (UInt8.ofNat (x*16+y),3)
     | _,_=>none:=by
    rw [hl,h120,iQ q1,iQ q2]
    rfl
   rw [he]
   have hd3:decide (s.size<3)=false:=decide_eq_false h3
   have hd3':decide ((s.size:Int)<3)=false:=decide_eq_false (by omega)
   obtain ⟨a,ha⟩: ∃a,Num.aX (s[1]'q1)=a:=⟨_,rfl⟩
   obtain ⟨b,hb⟩: ∃b,Num.aX (s[2]'q2)=b:=⟨_,rfl⟩
   have ca:=y9 (s[1]'q1)
   have cb:=y9 (s[2]'q2)
   rw [ha] at ca
   rw [hb] at cb
   have hi1: ∀wx:World,Calls Tryz.prog 117 #[.string ⟨#[48,49,50,51,52,53,54,55,56,57,97,98,99,100,101,102]⟩, .int .u8 ((s[1]'q1).toNat:Int)] wx fun e w'=>e= .returned (.int .i64 (jh a))∧w'=wx:=fun wx=>
    (Tryz.strings_IndexByte _ _ wx).mono fun e w' ⟨he,hw⟩=>⟨by rw [he];exact yM (int_eq (by rw [byte_back];exact ca)),hw⟩
   have hi2: ∀wx:World,Calls Tryz.prog 117 #[.string ⟨#[48,49,50,51,52,53,54,55,56,57,97,98,99,100,101,102]⟩, .int .u8 ((s[2]'q2).toNat:Int)] wx fun e w'=>e= .returned (.int .i64 (jh b))∧w'=wx:=fun wx=>
    (Tryz.strings_IndexByte _ _ wx).mono fun e w' ⟨he,hw⟩=>⟨by rw [he];exact yM (int_eq (by rw [byte_back];exact cb)),hw⟩
   have HI1:=hq7 hi1
   have HI2:=hq7 hi2
   have la: ∀d,a=some d→d<16:=fun d h=>kT (ha.trans h)
   have lb: ∀d,b=some d→d<16:=fun d h=>kT (hb.trans h)
   have LA:=hq7 la
   have LB:=hq7 lb
   rw [ha,hb]
   clear hi1 hi2 he hl hlen ha hb ca cb la lb h92 h39 h110 h114 h116 h120
   cases a with
   | none=>
    have ea:jh none= -1:=rfl
    rw [ea] at HI1
    cases b with
    | none=>
     have eb:jh none= -1:=rfl
     rw [eb] at HI2
     go_enter Tryz.func254,Tryz.ntmps254
     go_wp2
     go_quiet ((go_at_call 117;first | exact Calls.quiet_of_same (HI1.out _) | exact Calls.quiet_of_same (HI2.out _) | exact iO (HI1.out _) | exact iO (HI2.out _)))
     go_wp2
     refine ret3 rfl ?_
     exact ⟨below_drewN (Below.refl _ _) _,_,_,rfl⟩
    | some y=>
     have hy:=LB.out y rfl
     have eb:jh (some y)=(y:Int):=rfl
     rw [eb] at HI2
     clear LA LB
     go_enter Tryz.func254,Tryz.ntmps254
     go_wp2
     go_quiet ((go_at_call 117;first | exact Calls.quiet_of_same (HI1.out _) | exact Calls.quiet_of_same (HI2.out _) | exact iO (HI1.out _) | exact iO (HI2.out _)))
     go_wp2
     refine ret3 rfl ?_
     exact ⟨below_drewN (Below.refl _ _) _,_,_,rfl⟩
   | some x=>
    have hx:=LA.out x rfl
    have ea:jh (some x)=(x:Int):=rfl
    rw [ea] at HI1
    cases b with
    | none=>
     have eb:jh none= -1:=rfl
     rw [eb] at HI2
     clear LA LB
     go_enter Tryz.func254,Tryz.ntmps254
     go_wp2
     go_quiet ((go_at_call 117;first | exact Calls.quiet_of_same (HI1.out _) | exact Calls.quiet_of_same (HI2.out _) | exact iO (HI1.out _) | exact iO (HI2.out _)))
     go_wp2
     refine ret3 rfl ?_
     exact ⟨below_drewN (Below.refl _ _) _,_,_,rfl⟩
    | some y=>
     have hy:=LB.out y rfl
     have eb:jh (some y)=(y:Int):=rfl
     rw [eb] at HI2
     have ev:((UInt8.ofNat (x*16+y)).toNat:Int)=16*x+y:=by
      rw [UInt8.toNat_ofNat',Nat.mod_eq_of_lt (by omega)]
      omega
     have HV:=hq7 ev
     clear LA LB ev
     go_enter Tryz.func254,Tryz.ntmps254
     go_wp2
     go_quiet ((go_at_call 117;first | exact Calls.quiet_of_same (HI1.out _) | exact Calls.quiet_of_same (HI2.out _) | exact iO (HI1.out _) | exact iO (HI2.out _)))
     go_wp2
     refine ret3 rfl ?_
     refine ⟨below_drewN (Below.refl _ _) _, ?_⟩
     show _=Ending.returned (.tuple #[.int .u8 ((UInt8.ofNat (x*16+y)).toNat:Int),_,_])
     rw [HV.out]
     rfl
 ·have t92:((((s[0]'hpos).toNat:Nat):Int) == 92)=false:=bq (k:=92) rfl (beq_eq_false_iff_ne.2 h92)
  have t39:((((s[0]'hpos).toNat:Nat):Int) == 39)=false:=bq (k:=39) rfl (beq_eq_false_iff_ne.2 h39)
  have t110:((((s[0]'hpos).toNat:Nat):Int) == 110)=false:=bq (k:=110) rfl (beq_eq_false_iff_ne.2 h110)
  have t114:((((s[0]'hpos).toNat:Nat):Int) == 114)=false:=bq (k:=114) rfl (beq_eq_false_iff_ne.2 h114)
  have t116:((((s[0]'hpos).toNat:Nat):Int) == 116)=false:=bq (k:=116) rfl (beq_eq_false_iff_ne.2 h116)
  have t120:((((s[0]'hpos).toNat:Nat):Int) == 120)=false:=bq (k:=120) rfl (beq_eq_false_iff_ne.2 h120)
  have he:Lex.esc s.data.toList=none:=by
   rw [hl]
   simp only [Lex.esc]
   rw [if_neg (fun h=>h.elim h92 h39),if_neg h110,if_neg h114,if_neg h116,if_neg h120]
  rw [he]
  have HE:jG none w (.returned (.tuple #[.int .u8 0, .int .i64 0, .bool false])) w:=⟨Below.refl _ _,0,0,rfl⟩
  have HH:=hq7 HE
  clear HE he hl hlen h92 h39 h110 h114 h116 h120
  go_enter Tryz.func254,Tryz.ntmps254
  go_wp2
  refine ret3 rfl ?_
  exact HH.out
theorem IZ (s:ByteArray) (w:World) (hs:s.size≤1073741824) (hL:Laid w):
  Calls Tryz.prog 122 #[.string s] w (bK (Num.parse s.data.toList) w):=by
 by_cases hn:s.data.toList=Num.jd
 ·have t1:(s.toList == [48,120,110,97,110])=true:=by rw [Lib.toList_data,hn];rfl
  have hp:Num.parse s.data.toList=some 9221120237041090560:=by unfold Num.parse;rw [if_pos hn]
  rw [hp]
  clear hp hn hL
  go_enter Tryz.func122,Tryz.ntmps122
  go_wp2
  go_ret2
  exact ⟨rfl,Below.refl _ _⟩
 ·by_cases hh:s.data.toList.head?=some 45
  ·exact parseFloat1 s w hs hL hn hh
  ·exact parseFloat0 s w hs hL hn hh
def bY:Lex.Res→Nat→Value
 | .tok kd tx nm n,i=> .agg #[.int .i64 (kd:Int), .string ⟨tx.toArray⟩, .int .i64 nm, .int .i64 (i:Int), .int .i64 ((i+n:Nat):Int), .int .i64 0]
 | .err o e,i=> .agg #[.int .i64 0, .string ⟨#[]⟩, .int .i64 0, .int .i64 ((i+o:Nat):Int), .int .i64 0, .int .i64 (e:Int)]
def iR (r:Lex.Res) (i:Nat) (w:World) (e:Ending) (w':World):Prop:=e= .returned (bY r i)∧Below w.heap.size w w'
theorem pU {fn:Func} {R:Ending→World→Prop} {tmps:Array Value} {W:World} {b:Nat} {v0 v1 v2 v3 v4 v5:Value} (hfn:fn.results= #[.cell 4 207])
  (ht:tmps.getD 4 undef= .pointer (some ⟨b,0,none⟩)) (hB:Blk W b 207 #[v0,v1,v2,v3,v4,v5]) (hR:R (.returned (.agg #[v0,v1,v2,v3,v4,v5])) W):
  bodyPost Tryz.prog fn R .ret {tmps:=tmps,defers:= []} W:=by
 have c0:=hB.cell 0
 have c1:=hB.cell 1
 have c2:=hB.cell 2
 have c3:=hB.cell 3
 have c4:=hB.cell 4
 have c5:=hB.cell 5
 simp at c0 c1 c2 c3 c4 c5
 refine bodyPost_ret (v:= .agg #[v0,v1,v2,v3,v4,v5]) ?_ rfl hR
 simp at ht
 simp [results,hfn,go_sem,ht,c0,c1,c2,c3,c4,c5]
theorem Blk.cast {W:World} {g:Nat} {T:TypeId} {cs cs':Array Value} (h:Blk W g T cs) (e:cs=cs'):Blk W g T cs':=e▸h
theorem lU (i e0:Int) (w:World):
  Calls Tryz.prog 204 #[.int .i64 i, .int .i64 e0] w fun e w'=>e= .returned (.agg #[.int .i64 0, .string ⟨#[]⟩, .int .i64 0, .int .i64 i, .int .i64 0, .int .i64 e0])∧Below w.heap.size w w':=by
 go_enter Tryz.func204,Tryz.ntmps204
 go_wp2
 exact bodyPost_ret (v:= .agg #[.int .i64 0, .string ⟨#[]⟩, .int .i64 0, .int .i64 i, .int .i64 0, .int .i64 e0]) (by simp [results,Tryz.results204,go_sem]) rfl ⟨rfl,(Below.refl _ _).alloc (Nat.le_refl _) _⟩
theorem dF {W:World} {b:Nat} {v0 v1 v2 v3 v4 v5:Value} (h:Blk W b 207 #[v0,v1,v2,v3,v4,v5]):
  W.cell? ⟨b,0,none⟩=some v0∧W.cell? ⟨b,1,none⟩=some v1∧W.cell? ⟨b,2,none⟩=some v2∧W.cell? ⟨b,3,none⟩=some v3∧W.cell? ⟨b,4,none⟩=some v4∧W.cell? ⟨b,5,none⟩=some v5∧
  W.frozen? ⟨b,0,none⟩=false∧W.frozen? ⟨b,1,none⟩=false∧W.frozen? ⟨b,2,none⟩=false∧W.frozen? ⟨b,3,none⟩=false∧W.frozen? ⟨b,4,none⟩=false∧W.frozen? ⟨b,5,none⟩=false:=
 ⟨h.cell 0,h.cell 1,h.cell 2,h.cell 3,h.cell 4,h.cell 5,h.frozen 0,h.frozen 1,h.frozen 2,h.frozen 3,h.frozen 4,h.frozen 5⟩
theorem gq {fn:Func} {r:Lex.Res} {i:Nat} {w W:World} {tmps:Array Value} {u0 u1 u2 u3 u4 u5 v0 v1 v2 v3 v4 v5:Value} (hfn:fn.results= #[.cell 4 207])
  (ht:tmps.getD 4 undef= .pointer (some ⟨w.heap.size,0,none⟩)) (hB:Blk W w.heap.size 207 #[u0,u1,u2,u3,u4,u5]) (hb:Below w.heap.size w W) (hv:bY r i= .agg #[v0,v1,v2,v3,v4,v5]):
  bodyPost Tryz.prog fn (iR r i w) .ret {tmps:=tmps,defers:= []} ((((((W.setCell ⟨w.heap.size,0,none⟩ v0).setCell ⟨w.heap.size,1,none⟩ v1).setCell ⟨w.heap.size,2,none⟩ v2).setCell ⟨w.heap.size,3,none⟩ v3).setCell ⟨w.heap.size,4,none⟩ v4).setCell ⟨w.heap.size,5,none⟩ v5):=by
 have hb0:Below w.heap.size w (W.setCell ⟨w.heap.size,0,none⟩ v0):=hb.setCell (Nat.le_refl _) _
 have hb1:=hb0.setCell (p:=⟨w.heap.size,1,none⟩) (Nat.le_refl _) v1
 have hb2:=hb1.setCell (p:=⟨w.heap.size,2,none⟩) (Nat.le_refl _) v2
 have hb3:=hb2.setCell (p:=⟨w.heap.size,3,none⟩) (Nat.le_refl _) v3
 have hb4:=hb3.setCell (p:=⟨w.heap.size,4,none⟩) (Nat.le_refl _) v4
 have hb5:=hb4.setCell (p:=⟨w.heap.size,5,none⟩) (Nat.le_refl _) v5
 refine pU (b:=w.heap.size) (v0:=v0) (v1:=v1) (v2:=v2) (v3:=v3) (v4:=v4) (v5:=v5) hfn ht ?_ ⟨by rw [hv],hb5⟩
 exact Blk.cast ((((((hB.ay 0 v0).ay 1 v1).ay 2 v2).ay 3 v3).ay 4 v4).ay 5 v5) (by simp)
theorem nG (s:ByteArray) (i n:Nat):(s.extract i (i+n)).data.toList=(s.data.toList.drop i).take n:=by
 rw [Lib.extract_data,Nat.add_sub_cancel_left]
theorem I4 (s:ByteArray) (i:Nat) (w:World) (hs:s.size≤1073741824) (hi:i≤s.size):
  Calls Tryz.prog 199 #[.string s, .int .i64 i] w (iR (.tok 1 ((s.data.toList.drop i).take (Lex.run Lex.aF (s.data.toList.drop i))) 0 (Lex.run Lex.aF (s.data.toList.drop i))) i w):=by
 have hr:=fun (W:World)=>II s i W hs hi
 have hl:=Lex.lS Lex.aF (s.data.toList.drop i)
 rw [List.length_drop,←Lib.size_eq] at hl
 obtain ⟨n,hn⟩: ∃n,Lex.run Lex.aF (s.data.toList.drop i)=n:=⟨_,rfl⟩
 rw [hn] at hr hl⊢
 obtain ⟨z,hz⟩: ∃z,s.extract i (i+n)=z:=⟨_,rfl⟩
 have hzl:(⟨((s.data.toList.drop i).take n).toArray⟩:ByteArray)=z:=by rw [←hz,←nG]
 obtain ⟨j,hj⟩: ∃j,i+n=j:=⟨_,rfl⟩
 rw [hj] at hr hz
 have htok:bY (.tok 1 ((s.data.toList.drop i).take n) 0 n) i= .agg #[.int .i64 1, .string z, .int .i64 0, .int .i64 i, .int .i64 j, .int .i64 0]:=by
  simp only [bY]
  rw [hzl,hj]
  rfl
 have HT:=hq7 htok
 have hjs:j≤s.size:=by omega
 have hij:i≤j:=by omega
 have ji:(j:Int)≤1073741824:=by omega
 have HR:=hq7 hr
 clear hr hj hn hl hzl htok
 go_enter Tryz.func199,Tryz.ntmps199
 go_wp2_with fail
 refine (HR.out _).mono ?_
 rintro e w' ⟨rfl,rfl⟩
 go_wp2
 exact bodyPost_ret (v:= .agg #[.int .i64 1, .string z, .int .i64 0, .int .i64 i, .int .i64 j, .int .i64 0]) (by simp [results,Tryz.results199,go_sem]) rfl ⟨by rw [HT.out],(Below.refl _ _).alloc (Nat.le_refl _) _⟩
theorem I5 (l:List UInt8):Lib.trimPrefix l [45]=Lex.jC l:=oZ l
theorem I7 (b:Nat) (h:b<18446744073709551616):IntKind.i64.wrap (b:Int)=Lex.int64 b:=by
 rw [IntKind.wrap_i64]
 unfold Lex.int64
 split<;> omega
theorem I8 {l:List UInt8} {b:Nat} (h:Num.parse l=some b):b<18446744073709551616:=(Num.rU h).2.1
theorem jW {w w1:World} (kk:Int) (i j:Nat) (hb:Below ((w.alloc (.cells #[.int .i64 0, .string ⟨#[]⟩, .int .i64 0, .int .i64 0, .int .i64 0, .int .i64 0] 207)).alloc (.cells #[.int .i64 kk, .string ⟨#[]⟩, .int .i64 0, .int .i64 i, .int .i64 j, .int .i64 0] 207)).heap.size ((w.alloc (.cells #[.int .i64 0, .string ⟨#[]⟩, .int .i64 0, .int .i64 0, .int .i64 0, .int .i64 0] 207)).alloc (.cells #[.int .i64 kk, .string ⟨#[]⟩, .int .i64 0, .int .i64 i, .int .i64 j, .int .i64 0] 207)) w1):
  Blk w1 w.heap.size 207 #[.int .i64 0, .string ⟨#[]⟩, .int .i64 0, .int .i64 0, .int .i64 0, .int .i64 0]∧Blk w1 (w.heap.size+1) 207 #[.int .i64 kk, .string ⟨#[]⟩, .int .i64 0, .int .i64 i, .int .i64 j, .int .i64 0]:=by
 have h1:=(Blk.new w 207 #[.int .i64 0, .string ⟨#[]⟩, .int .i64 0, .int .i64 0, .int .i64 0, .int .i64 0]).alloc (.cells #[.int .i64 kk, .string ⟨#[]⟩, .int .i64 0, .int .i64 i, .int .i64 j, .int .i64 0] 207)
 have h2:=Blk.new (w.alloc (.cells #[.int .i64 0, .string ⟨#[]⟩, .int .i64 0, .int .i64 0, .int .i64 0, .int .i64 0] 207)) 207 #[.int .i64 kk, .string ⟨#[]⟩, .int .i64 0, .int .i64 i, .int .i64 j, .int .i64 0]
 rw [World.size_alloc] at h2
 exact ⟨h1.below hb h1.lt,h2.below hb h2.lt⟩
theorem I9 (s:ByteArray) (i:Nat) (w:World) (hs:s.size≤1073741824) (hi:i<s.size) (hL:Laid w):
  Calls Tryz.prog 201 #[.string s, .int .i64 i] w (iR (Lex.eH ((s.data.toList.drop i).take (1+Lex.run Lex.bD (s.data.toList.drop (i+1))))) i w):=by
 have hr:=fun (W:World)=>IJ s (i+1) W hs hi
 have hl:=Lex.lS Lex.bD (s.data.toList.drop (i+1))
 rw [List.length_drop,←Lib.size_eq] at hl
 obtain ⟨n,hn⟩: ∃n,Lex.run Lex.bD (s.data.toList.drop (i+1))=n:=⟨_,rfl⟩
 rw [hn] at hr hl⊢
 obtain ⟨z,hz⟩: ∃z,s.extract i (i+(1+n))=z:=⟨_,rfl⟩
 have hzl:z.data.toList=(s.data.toList.drop i).take (1+n):=by rw [←hz,nG]
 have hzlen:z.data.toList.length=1+n:=by rw [hzl,List.length_take,List.length_drop,←Lib.size_eq];omega
 rw [←hzl]
 obtain ⟨j,hj⟩: ∃j,i+(1+n)=j:=⟨_,rfl⟩
 rw [hj] at hz
 rw [show i+1+n=j by omega,show ((i+1:Nat):Int)=(i:Int)+1 by omega] at hr
 have hjs:j≤s.size:=by omega
 have hij:i≤j:=by omega
 have ji:(j:Int)≤1073741824:=by omega
 have ii:(i:Int)≤1073741824:=by omega
 have hzs:z.size≤1073741824:=by rw [Lib.size_eq,hzlen];omega
 have hpf:=fun (W:World) (hb:Below w.heap.size w W)=>IZ z W hzs (hL.below hb)
 have hpi:=fun (W:World) (hb:Below w.heap.size w W)=>yK z W hzs (hL.below hb)
 have htr:=fun (W:World)=>(Tryz.strings_TrimPrefix z ⟨#[45]⟩ W).mono fun e w' (h:_∧w'=W)=>(⟨h.1,h.2.symm⟩:_∧W=w')
 have e45:(⟨#[45]⟩:ByteArray).data.toList= [45]:=rfl
 rw [e45,I5] at htr
 obtain ⟨y,hy⟩: ∃y:ByteArray,(⟨(Lex.jC z.data.toList).toArray⟩:ByteArray)=y:=⟨_,rfl⟩
 have hhp:=fun (W:World)=>(Tryz.strings_HasPrefix y ⟨#[48,120]⟩ W).mono fun e w' (h:_∧w'=W)=>(⟨h.1,h.2.symm⟩:_∧W=w')
 have e0x:(⟨#[48,120]⟩:ByteArray).data.toList= [48,120]:=rfl
 have hyd:y.data.toList=Lex.jC z.data.toList:=by rw [←hy]
 rw [e0x,hyd] at hhp
 rw [hy] at htr
 obtain ⟨v,hv⟩: ∃v,Lib.hasPrefix (Lex.jC z.data.toList) [48,120]=v:=⟨_,rfl⟩
 rw [hv] at hhp
 obtain ⟨zn,hzn⟩: ∃x,z.data.toList.length=x:=⟨_,rfl⟩
 have hzj:i+zn=j:=by omega
 have hbase:=fun (kk:Int)=>(show Below w.heap.size w ((w.alloc (.cells #[.int .i64 0, .string ⟨#[]⟩, .int .i64 0, .int .i64 0, .int .i64 0, .int .i64 0] 207)).alloc (.cells #[.int .i64 kk, .string ⟨#[]⟩, .int .i64 0, .int .i64 i, .int .i64 j, .int .i64 0] 207)) from ((Below.refl _ _).alloc (Nat.le_refl _) _).alloc (by simp) _)
 have HR:=hq7 hr
 have HPF:=hq7 hpf
 have HPI:=hq7 hpi
 have HTR:=hq7 htr
 have HHP:=hq7 hhp
 have HZJ:=hq7 hzj
 have HBASE:=hq7 hbase
 have hfl:=fun (a b:Int) (W:World)=>lU a b W
 have HFL:=hq7 hfl
 clear hr hpf hpi htr hhp hy hyd e45 e0x hzlen hzl hj hn hL hzj hbase hl hfl
 cases v with
 | true=>
  have hnt:Lex.eH z.data.toList=match Num.parse z.data.toList with | some b=> .tok 3 [] (Lex.int64 b) z.data.toList.length | none=> .err 0 52:=by
   unfold Lex.eH
   rw [if_pos hv]
   cases Num.parse z.data.toList<;> rfl
  rw [hnt,hzn]
  clear hv hnt
  cases hp:Num.parse z.data.toList with
  | some b=>
   show Calls _ _ _ _ (iR (.tok 3 [] (Lex.int64 b) zn) i w)
   have hwr:=I7 b (I8 hp)
   have hcall:=HPF.out
   rw [hp] at hcall
   have HC:=hq7 hcall
   obtain ⟨q,hq⟩: ∃q,Lex.int64 b=q:=⟨_,rfl⟩
   rw [hq] at hwr⊢
   have ht:bY (.tok 3 [] q zn) i= .agg #[.int .i64 3, .string ⟨#[]⟩, .int .i64 q, .int .i64 i, .int .i64 j, .int .i64 0]:=by
    simp only [bY,HZJ.out]
    rfl
   have HT:=hq7 ht
   clear hcall hp hq HPF HPI ht
   go_enter Tryz.func201,Tryz.ntmps201
   go_wp2_with fail
   refine (HR.out _).mono ?_
   rintro e w' ⟨rfl,rfl⟩
   go_wp2_with fail
   refine (HTR.out _).mono ?_
   rintro e w' ⟨rfl,rfl⟩
   go_wp2_with fail
   refine (HHP.out _).mono ?_
   rintro e w' ⟨rfl,rfl⟩
   go_wp2_with fail
   refine (HC.out _ (HBASE.out _)).mono ?_
   rintro e w1 ⟨rfl,hb⟩
   have hz:w.heap.size+1<w1.heap.size:=by have:=hb.size;simp at this;omega
   have HB:=hq7 ((HBASE.out _).trans (hb.mono (HBASE.out _).size))
   have HK:=hq7 (jW 0 i j hb).1
   have HT1:=hq7 (jW 0 i j hb).2
   obtain ⟨g0,g1,g2,g3,g4,g5,f0,f1,f2,f3,f4,f5⟩:=dF HK.out
   obtain ⟨k0,k1,k2,k3,k4,k5,e0,e1,e2,e3,e4,e5⟩:=dF HT1.out
   clear hb
   go_wp2
   exact gq Tryz.results201 rfl ((((HK.out.far (by simp) _).far (by simp) _).far (by simp) _)) (((HB.out.setCell (by simp) _).setCell (by simp) _).setCell (by simp) _) HT.out
  | none=>
   show Calls _ _ _ _ (iR (.err 0 52) i w)
   have hcall:=HPF.out
   rw [hp] at hcall
   have HC:=hq7 hcall
   have ht:bY (.err 0 52) i= .agg #[.int .i64 0, .string ⟨#[]⟩, .int .i64 0, .int .i64 i, .int .i64 0, .int .i64 52]:=by
    simp only [bY,Nat.add_zero]
    rfl
   have HT:=hq7 ht
   clear hcall hp HPF HPI ht
   go_enter Tryz.func201,Tryz.ntmps201
   go_wp2_with fail
   refine (HR.out _).mono ?_
   rintro e w' ⟨rfl,rfl⟩
   go_wp2_with fail
   refine (HTR.out _).mono ?_
   rintro e w' ⟨rfl,rfl⟩
   go_wp2_with fail
   refine (HHP.out _).mono ?_
   rintro e w' ⟨rfl,rfl⟩
   go_wp2_with fail
   refine (HC.out _ (HBASE.out _)).mono ?_
   rintro e w1 ⟨rfl,hb⟩
   have hz:w.heap.size+1<w1.heap.size:=by have:=hb.size;simp at this;omega
   have HB:=hq7 ((HBASE.out _).trans (hb.mono (HBASE.out _).size))
   have HK:=hq7 (jW 0 i j hb).1
   have HT1:=hq7 (jW 0 i j hb).2
   obtain ⟨g0,g1,g2,g3,g4,g5,f0,f1,f2,f3,f4,f5⟩:=dF HK.out
   obtain ⟨k0,k1,k2,k3,k4,k5,e0,e1,e2,e3,e4,e5⟩:=dF HT1.out
   clear hb
   go_wp2_with fail
   refine (HFL.out _ _ _).mono ?_
   rintro e w2 ⟨rfl,hb2⟩
   have hz2:w.heap.size+1<w2.heap.size:=by have:=hb2.size;simp at this;omega
   have HK2:=hq7 (Blk.below (((HK.out.far (by simp) _).far (by simp) _).far (by simp) _) hb2 (by simp;omega))
   clear g0 g1 g2 g3 g4 g5 f0 f1 f2 f3 f4 f5 k0 k1 k2 k3 k4 k5 e0 e1 e2 e3 e4 e5
   obtain ⟨g0,g1,g2,g3,g4,g5,f0,f1,f2,f3,f4,f5⟩:=dF HK2.out
   have HB2:=hq7 (Below.trans (((HB.out.setCell (by simp) _).setCell (by simp) _).setCell (by simp) _) (hb2.mono (by simp;omega)))
   clear hb2
   go_wp2
   exact gq Tryz.results201 rfl HK2.out HB2.out HT.out
 | false=>
  have hnt:Lex.eH z.data.toList=if (Num.aW z.data.toList).2=0 then .tok 2 [] (Num.aW z.data.toList).1 z.data.toList.length else .err 0 (Num.aW z.data.toList).2:=by
   unfold Lex.eH
   rw [if_neg (by rw [hv];decide)]
  rw [hnt,hzn]
  clear hv hnt
  obtain ⟨x,hx⟩: ∃x,Num.aW z.data.toList=x:=⟨_,rfl⟩
  have hcall:=HPI.out
  rw [hx] at hcall⊢
  obtain ⟨q,k⟩:=x
  have HC:=hq7 hcall
  by_cases hk:k=0
  ·subst hk
   rw [if_pos rfl]
   have ht:bY (.tok 2 [] q zn) i= .agg #[.int .i64 2, .string ⟨#[]⟩, .int .i64 q, .int .i64 i, .int .i64 j, .int .i64 0]:=by
    simp only [bY,HZJ.out]
    rfl
   have HT:=hq7 ht
   clear hcall hx HPF HPI ht
   go_enter Tryz.func201,Tryz.ntmps201
   go_wp2_with fail
   refine (HR.out _).mono ?_
   rintro e w' ⟨rfl,rfl⟩
   go_wp2_with fail
   refine (HTR.out _).mono ?_
   rintro e w' ⟨rfl,rfl⟩
   go_wp2_with fail
   refine (HHP.out _).mono ?_
   rintro e w' ⟨rfl,rfl⟩
   go_wp2_with fail
   refine (HC.out _ (HBASE.out _)).mono ?_
   rintro e w1 ⟨rfl,hb⟩
   have hz:w.heap.size+1<w1.heap.size:=by have:=hb.size;simp at this;omega
   have HB:=hq7 ((HBASE.out _).trans (hb.mono (HBASE.out _).size))
   have HK:=hq7 (jW 2 i j hb).1
   have HT1:=hq7 (jW 2 i j hb).2
   obtain ⟨g0,g1,g2,g3,g4,g5,f0,f1,f2,f3,f4,f5⟩:=dF HK.out
   obtain ⟨k0,k1,k2,k3,k4,k5,e0,e1,e2,e3,e4,e5⟩:=dF HT1.out
   clear hb
   go_wp2
   exact gq Tryz.results201 rfl (((HK.out.far (by simp) _).far (by simp) _)) ((HB.out.setCell (by simp) _).setCell (by simp) _) HT.out
  ·rw [if_neg hk]
   have ht:bY (.err 0 k) i= .agg #[.int .i64 0, .string ⟨#[]⟩, .int .i64 0, .int .i64 i, .int .i64 0, .int .i64 k]:=by
    simp only [bY,Nat.add_zero]
   have HT:=hq7 ht
   have hk1:((k:Int) !=0)=true:=by rw [bne_iff_ne];omega
   clear hcall hx HPF HPI ht
   go_enter Tryz.func201,Tryz.ntmps201
   go_wp2_with fail
   refine (HR.out _).mono ?_
   rintro e w' ⟨rfl,rfl⟩
   go_wp2_with fail
   refine (HTR.out _).mono ?_
   rintro e w' ⟨rfl,rfl⟩
   go_wp2_with fail
   refine (HHP.out _).mono ?_
   rintro e w' ⟨rfl,rfl⟩
   go_wp2_with fail
   refine (HC.out _ (HBASE.out _)).mono ?_
   rintro e w1 ⟨rfl,hb⟩
   have hz:w.heap.size+1<w1.heap.size:=by have:=hb.size;simp at this;omega
   have HB:=hq7 ((HBASE.out _).trans (hb.mono (HBASE.out _).size))
   have HK:=hq7 (jW 2 i j hb).1
   have HT1:=hq7 (jW 2 i j hb).2
   obtain ⟨g0,g1,g2,g3,g4,g5,f0,f1,f2,f3,f4,f5⟩:=dF HK.out
   obtain ⟨k0,k1,k2,k3,k4,k5,e0,e1,e2,e3,e4,e5⟩:=dF HT1.out
   clear hb
   go_wp2_with fail
   refine (HFL.out _ _ _).mono ?_
   rintro e w2 ⟨rfl,hb2⟩
   have hz2:w.heap.size+1<w2.heap.size:=by have:=hb2.size;simp at this;omega
   have HK2:=hq7 (Blk.below ((HK.out.far (by simp) _).far (by simp) _) hb2 (by simp;omega))
   clear g0 g1 g2 g3 g4 g5 f0 f1 f2 f3 f4 f5 k0 k1 k2 k3 k4 k5 e0 e1 e2 e3 e4 e5
   obtain ⟨g0,g1,g2,g3,g4,g5,f0,f1,f2,f3,f4,f5⟩:=dF HK2.out
   have HB2:=hq7 (Below.trans ((HB.out.setCell (by simp) _).setCell (by simp) _) (hb2.mono (by simp;omega)))
   clear hb2
   go_wp2
   exact gq Tryz.results201 rfl HK2.out HB2.out HT.out
theorem pV (b off j:Nat):(⟨b,off,none⟩:Addr).add j=⟨b,off+j,none⟩:=by
 unfold Addr.add
 split<;> simp_all
section
variable {P:Program} (w:World)
theorem Ja (base:Nat) (t ty e:TypeId) (i:TypeInfo) (size:Nat) (ht:P.underlying t=some (.slice e)) (hi:P.info? e=some i)
  (v:Value) (n:Nat) (xs:List Value) (hown:w.ownsRow base e size v n xs) (c:Nat):(Builtin.append_ #[t,t] ty #[v, .slice none 0 c]).run P w= .ok v w:=by
 rcases hown.2 with ⟨rfl,rfl⟩ |⟨g,cap,cur,rfl,_,_,hnc,_⟩
 ·simp [Builtin.append_,run_underlying ht,sizeOf,typeInfo,hi,Builtin.lenOf,Builtin.firstCells]
 ·simp [Builtin.append_,run_underlying ht,sizeOf,typeInfo,hi,Builtin.lenOf,Builtin.firstCells,hnc,storeCells]
theorem Jb (base:Nat) (t ty e:TypeId) (i:TypeInfo) (z:Value) (size bytes:Nat) (ht:P.underlying t=some (.slice e)) (hi:P.info? e=some i) (hz:i.zero=some z)
  (hsize:i.size=size) (hby:i.bytes=bytes) (hzs:z.cells.size=size) (hsz:0<size)
  (v:Value) (n:Nat) (xs:List Value) (hown:w.ownsRow base e size v n xs)
  (B:Nat) (A:Option Addr) (m c:Nat) (news:List Value) (hr:Reads w B size A m news) (h1: ∀u∈news,u.oneCell'=true)
  (h63:n+m≤maxLen) (hbytes:(n+m)*bytes≤140737488355328) (hbase:base≤w.heap.size):
  ∃v' w',(Builtin.append_ #[t,t] ty #[v, .slice A m c]).run P w= .ok v' w'∧w'.ownsRow base e size v' (n+m) (xs ++ news)∧w.grownBy w' v.ownBlock∧
   (v'.ownBlock=v.ownBlock∨v'.ownBlock=some w.heap.size):=by
 rcases A with _ | ad
 ·have hm:m=0:=by
   rcases Nat.eq_zero_or_pos m with h0 | h0
   ·exact h0
   ·obtain ⟨_,_,h,_⟩:=hr.2 h0
    cases h
  subst hm
  have hn:news= []:=List.eq_nil_of_length_eq_zero (by simpa using hr.1)
  subst hn
  exact ⟨v,w,Ja w base t ty e i size ht hi v n xs hown c,by simpa using hown,World.grownBy.refl w _, .inl rfl⟩
 ·have hcells: ∀j u,news[j]?=some u→w.cell? (ad.add j)=some u:=by
   intro j u hu
   rcases Nat.eq_zero_or_pos m with h0 | h0
   ·subst h0
    have hn:news= []:=List.eq_nil_of_length_eq_zero (by simpa using hr.1)
    subst hn
    simp at hu
   ·obtain ⟨b',off',h,_,hc⟩:=hr.2 h0
    cases h
    rw [pV]
    exact hc j u hu
  obtain ⟨v',w',hrun,h2,h3,_,h5⟩:=run_append_own_at (P:=P) w base t ty e i z size bytes ht hi hz hsize hby hzs hsz v n xs hown ad m c news hr.1 hcells h1 h63 hbytes hbase
  exact ⟨v',w',hrun,h2,h3,h5⟩
theorem zh {o:Oper} {a:Act} {K:Act→World→Prop} {Q:Exit→Act→World→Prop} (s x:Operand) (t:TypeId)
  (ho:o.op= .call {callee:= .builtin .append,args:= #[s,x],argTypes:= #[t,t]})
  (base:Nat) (e:TypeId) (i:TypeInfo) (z:Value) (size bytes:Nat) (ht:P.underlying t=some (.slice e)) (hi:P.info? e=some i) (hz:i.zero=some z)
  (hsize:i.size=size) (hby:i.bytes=bytes) (hzs:z.cells.size=size) (hsz:0<size)
  (v:Value) (n:Nat) (xs:List Value) (hs:a.eval s=v) (hown:w.ownsRow base e size v n xs)
  (B:Nat) (A:Option Addr) (m c:Nat) (news:List Value) (hx:a.eval x= .slice A m c) (hr:Reads w B size A m news) (h1: ∀u∈news,u.oneCell'=true)
  (h63:n+m≤maxLen) (hbytes:(n+m)*bytes≤140737488355328) (hbase:base≤w.heap.size)
  (h: ∀v' w',w'.ownsRow base e size v' (n+m) (xs ++ news)→w.grownBy w' v.ownBlock→(v'.ownBlock=v.ownBlock∨v'.ownBlock=some w.heap.size)→K (a.put o.dst v') w'):o.wp P a w K Q:=by
 obtain ⟨v',w',hrun,h2,h3,h4⟩:=Jb (P:=P) w base t o.type e i z size bytes ht hi hz hsize hby hzs hsz v n xs hown B A m c news hr h1 h63 hbytes hbase
 unfold Oper.wp execOp
 simp only [ho,resolve,invoke,builtin,Sem.run_bind,Sem.run_pure,Result.andThen_ok,List.map_toArray,List.map_cons,List.map_nil,hs,hx,hrun]
 exact h v' w' h2 h3 h4
theorem jX {ops:Array Oper} {rest:List Oper} {o:Oper} {a:Act} {Q:Exit→Act→World→Prop} (hgd:o.guard=none) (s x:Operand) (t:TypeId)
  (ho:o.op= .call {callee:= .builtin .append,args:= #[s,x],argTypes:= #[t,t]})
  (base:Nat) (e:TypeId) (i:TypeInfo) (z:Value) (size bytes:Nat) (ht:P.underlying t=some (.slice e)) (hi:P.info? e=some i) (hz:i.zero=some z)
  (hsize:i.size=size) (hby:i.bytes=bytes) (hzs:z.cells.size=size) (hsz:0<size)
  (v:Value) (n:Nat) (xs:List Value) (hs:a.eval s=v) (hown:w.ownsRow base e size v n xs)
  (B:Nat) (A:Option Addr) (m c:Nat) (news:List Value) (hx:a.eval x= .slice A m c) (hr:Reads w B size A m news) (h1: ∀u∈news,u.oneCell'=true)
  (h63:n+m≤maxLen) (hbytes:(n+m)*bytes≤140737488355328) (hbase:base≤w.heap.size)
  (h: ∀v' w',w'.ownsRow base e size v' (n+m) (xs ++ news)→w.grownBy w' v.ownBlock→(v'.ownBlock=v.ownBlock∨v'.ownBlock=some w.heap.size)→wpList P ops Q rest (a.put o.dst v') w'):wpList P ops Q (o :: rest) a w:=
 wpList_plain hgd fun _ hK=>zh w s x t ho base e i z size bytes ht hi hz hsize hby hzs hsz v n xs hs hown B A m c news hx hr h1 h63 hbytes hbase fun v' w' h2 h3 h4=>hK _ _ (h v' w' h2 h3 h4)
end
end Go.Proofs.YtoofbflplhbpbaaGreatDoor
namespace Go.Proofs.YtoofbflplhbpbaaGreatDoor
open Go.RowKit
theorem Jc:(Tryz.prog.info? 5).map (fun i=>(i.zero,i.size,i.bytes))=some (some (.int .u8 0),1,1):=by kernel_rfl
def OwnB (B:Nat) (v:Value) (l:List UInt8) (w:World):Prop:=w.ownsRow B 5 1 v l.length (Lib.byteCells l)
theorem byteCells_one (x:UInt8):Lib.byteCells [x]= [.int .u8 (x.toNat:Int)]:=by simp [Lib.byteCells]
theorem zA (a b:List UInt8):Lib.byteCells (a ++ b)=Lib.byteCells a ++ Lib.byteCells b:=by simp [Lib.byteCells]
theorem OwnB.conv {B:Nat} {v:Value} {l:List UInt8} {w:World} (h:OwnB B v l w):(convert 55 9 v).run Tryz.prog w= .ok (.string ⟨l.toArray⟩) w:=by
 rcases h.2 with ⟨rfl,hn⟩ |⟨g,cap,cur,rfl,hb,hg,h1,h2,h3⟩
 ·have:l= []:=List.eq_nil_of_length_eq_zero hn
  subst this
  exact run_convert_bytes_nil w 55 5 Tryz.underlying55 Tryz.underlying5 0 0 9 Tryz.underlying9
 ·refine run_convert_bytes_back (P:=Tryz.prog) w 55 9 5 ⟨g,0,none⟩ cap l Tryz.underlying55 Tryz.underlying5 Tryz.underlying9 (fun j hj=> ?_)
  have hr:=Reads.dL (c:=cap) h
  obtain ⟨b',off',u,e,_,hu,hc⟩:=hr.at_ (k:=j) hj
  cases e
  rw [pV]
  rw [hc,←hu]
  simp [Lib.byteCells,List.getElem?_eq_getElem hj]
theorem OwnB.form {B:Nat} {v:Value} {l:List UInt8} {w:World} (h:OwnB B v l w): ∃A c,v= .slice A l.length c:=ak h
theorem nH {ops:Array Oper} {rest:List Oper} {o:Oper} {a:Act} {Q:Exit→Act→World→Prop} (hgd:o.guard=none) (s x:Operand)
  (ho:o.op= .call {callee:= .builtin .append,args:= #[s,x],argTypes:= #[55,55]})
  (B:Nat) (v:Value) (l:List UInt8) (W:World) (hs:a.eval s=v) (h:OwnB B v l W) (bs:List UInt8) (us:List Value) (hu:us=Lib.byteCells bs) (m:Nat) (hm:bs.length=m)
  (hx:a.eval x= .slice (some ⟨W.heap.size,0,none⟩) m m) (hl:l.length<1073741824) (hm2:m<1073741824) (hB:B≤W.heap.size)
  (k: ∀v' w',OwnB B v' (l ++ bs) w'→W.grownBy w' v.ownBlock→Below B W w'→wpList Tryz.prog ops Q rest (a.put o.dst v') w'):
  wpList Tryz.prog ops Q (o :: rest) a (W.alloc (.cells us.toArray 5)):=by
 obtain ⟨i0,hi,hz0,hz1,hz2⟩:=info_parts Jc
 subst hu
 refine wpList_append_own _ hgd s x 55 ho B 5 i0 (.int .u8 0) 1 1 Tryz.underlying55 hi hz0 hz1 hz2 rfl (by decide) v l.length (Lib.byteCells l) hs (World.ownsRow.alloc h _) ⟨W.heap.size,0,none⟩ m m (Lib.byteCells bs) hx ?c0 ?c1 ?c2 ?c3 ?c4 ?c5 ?_
 case c0=>simp [Lib.byteCells,hm]
 case c1=>
  intro j u hj
  rw [pV]
  have:=(Blk.new W 5 (Lib.byteCells bs).toArray).cell (0+j)
  rw [this]
  simpa using hj
 case c2=>intro u hu;simp only [Lib.byteCells,List.mem_map] at hu;obtain ⟨_,_,rfl⟩:=hu;rfl
 case c3=>unfold maxLen;omega
 case c4=>omega
 case c5=>simp;omega
 intro v' w' hown hgr _
 refine k v' w' ?_ ?_ ?_
 ·unfold OwnB
  rw [zA,List.length_append,hm]
  exact hown
 ·exact aT (jF (bF W _) _) hgr
 ·exact ((Below.refl B W).alloc hB _).grown hgr (by simp;omega) (fun j e=>(World.ownsRow.lt h j e).1)
theorem iD {ops:Array Oper} {rest:List Oper} {o:Oper} {a:Act} {Q:Exit→Act→World→Prop} (hgd:o.guard=none) (s x:Operand) (T e:TypeId) (z:Value) (bytes:Nat)
  (hT:Tryz.prog.underlying T=some (.slice e)) (hinfo:(Tryz.prog.info? e).map (fun i=>(i.zero,i.size,i.bytes))=some (some z,1,bytes)) (hz:z.cells.size=1) (hby:bytes≤24)
  (ho:o.op= .call {callee:= .builtin .append,args:= #[s,x],argTypes:= #[T,T]})
  (B:Nat) (v:Value) (n:Nat) (xs:List Value) (W:World) (hs:a.eval s=v) (h:W.ownsRow B e 1 v n xs) (u:Value) (hu:u.oneCell'=true)
  (hx:a.eval x= .slice (some ⟨W.heap.size,0,none⟩) 1 1) (hl:n<1073741824) (hB:B≤W.heap.size)
  (k: ∀v' w',w'.ownsRow B e 1 v' (n+1) (xs ++ [u])→W.grownBy w' v.ownBlock→(v'.ownBlock=v.ownBlock∨ ∃g,v'.ownBlock=some g∧W.heap.size≤g)→Below B W w'→wpList Tryz.prog ops Q rest (a.put o.dst v') w'):
  wpList Tryz.prog ops Q (o :: rest) a (W.alloc (.cells #[u] e)):=by
 obtain ⟨i0,hi,hz0,hz1,hz2⟩:=info_parts hinfo
 refine wpList_append_own_at _ hgd s x T ho B e i0 z 1 bytes hT hi hz0 hz1 hz2 hz (by decide) v n xs hs (World.ownsRow.alloc h _) ⟨W.heap.size,0,none⟩ 1 1 [u] hx rfl ?c1 ?c2 ?c3 ?c4 ?c5 ?_
 case c1=>exact cell_one_new _ _ _
 case c2=>intro y hy;rw [List.mem_singleton.1 hy];exact hu
 case c3=>unfold maxLen;omega
 case c4=>
  have:(n+1)*bytes≤1073741824*24:=Nat.mul_le_mul (by omega) hby
  omega
 case c5=>simp;omega
 intro v' w' hown hgr _ hwh
 refine k v' w' hown (aT (jF (bF W _) _) hgr) (hwh.imp id (fun h=>⟨_,h,by simp⟩)) ?_
 exact ((Below.refl B W).alloc hB _).grown hgr (by simp;omega) (fun j e=>(World.ownsRow.lt h j e).1)
end Go.Proofs.YtoofbflplhbpbaaGreatDoor
