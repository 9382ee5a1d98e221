/- Contracts and plain laws,part 7. -/
import Derived.Test.YtkdakckjafomhaaGreatDoorUW06
set_option maxHeartbeats 64000000
set_option maxRecDepth 1000000
set_option linter.all false
namespace Go.Proofs.YtkdakckjafomhaaGreatDoor
open Go.RowKit
def oH (r:Option Int) (w:World) (e:Ending) (w':World):Prop:= ∃v,e=.returned (.tuple #[.int .i64 v,.bool r.isSome])/\(∀x,r=some x->v=x)/\Below w.heap.size w w'
theorem oH.none_ {r:Option Int} {w w':World} {v:Int} (h:r=none) (hb:Below w.heap.size w w'):oH r w (.returned (.tuple #[.int .i64 v,.bool false])) w':=by
 subst h;exact⟨v,rfl,(fun x hx=>by cases hx),hb⟩
theorem oH.some_ {r:Option Int} {w w':World} {v:Int} (h:r=some v) (hb:Below w.heap.size w w'):oH r w (.returned (.tuple #[.int .i64 v,.bool true])) w':=by
 subst h;exact⟨v,rfl,fun x hx=>ad4 hx,hb⟩
theorem Zh (c:UInt8) (r:List UInt8):Num.qG (c :: r)=if r=[]\/4<r.length\/(c≠112/\c≠109)\/Num.isInt r=false\/r.head?=some 45\/(c=109/\r=[48]) then none else
  if Num.uS c r<=1023/\ -1074<=Num.uS c r then some (Num.uS c r) else none:=rfl
theorem lM (b:Bool):(some undef=some (Value.bool b))=False:=by simp[undef]
theorem OV (x y:UInt8):((x.toNat:Int) ==(y.toNat:Int))=decide (x=y):=by
 by_cases h:x=y
 ·rw[adb h,h];simp
 rw[ac5 h,adh];intro e;exact h (afi.1 (by omega))
theorem Zi (s:ByteArray) (w:World) (hs:s.size<=1073741824):
  Calls Tryz.prog 215 #[.string s] w (oH (Num.qG s.data.toList) w):=by
 obtain⟨l,hl⟩:=aj s.data.toList;have hsz:s.size=l.length:=by rw[Lib.size_eq,hl]
 have hsg: ∀(k:Nat) (h:k<s.size),l[k]?=some (s[k]'h):=fun k h=>by rw[<-hl];exact Lib.data_getElem? s k h
 obtain⟨R,hR⟩:=aj (Num.qG l);rw[hl,hR];by_cases h2:s.size<2
 ·have hr:R=none:=by
   rw[<-hR];cases l with
   |nil=>rfl
   |cons c r=>
    have:r=[]:=adB (by simp at hsz;omega)
    rw[Zh,adk (.inl this)]
  have HR:=ah hr;have t1:(s.size:Int)<2:=by omega
  have t1':decide ((s.size:Int)<2)=true:=adb t1;have hu:=lM;clear hr hR hsg hsz hl h2
  go_enter Tryz.func215,Tryz.ntmps215;go_wp2
  go_ret2
  exact oH.none_ HR.out (Below.refl _ _)
 obtain⟨c,d,r',rfl⟩: ∃c d r',l=c :: d :: r':=by
  cases l with
  |nil=>rw[ae8]at hsz;omega
  |cons c r=>
   cases r with
   |nil=>rw[aeM]at hsz;omega
   |cons d r'=>exact⟨c,d,r',rfl⟩
 have t1:(2:Int)<=s.size:=by omega
 have hp0:0<s.size:=by omega
 have hp1:1<s.size:=by omega
 have apo:(0:Int)<s.size:=by omega
 have apq:(1:Int)<s.size:=by omega
 have apr:(1:Int)<=s.size:=by omega
 have e0:s[0]'hp0=c:=by have:=hsg 0 hp0;simpa using this.symm
 have e1:s[1]'hp1=d:=by have:=hsg 1 hp1;simpa using this.symm
 have hu:=lM;obtain⟨z,hz⟩:=aj (s.extract 1 s.size)
 have hzl:z.data.toList=d :: r':=by
  rw[<-hz,Lib.extract_data,hl];simp;rw[ado];simp at hsz⊢;omega
 have hzs:z.size=r'.length+1:=by rw[Lib.size_eq,hzl];rfl
 have hrl:(d :: r').length+1=s.size:=by rw[hsz];rfl
 have hrl2:r'.length+2=s.size:=by rw[hsz];rfl
 rw[Zh]at hR;by_cases h5:5<s.size
 ·rw[adk (.inr (.inl (by omega)))]at hR
  have HR:=ah hR.symm;have t2:(5:Int)<s.size:=by omega
  clear hR hsg hsz hl h2 h5 e0 e1 hzl hzs hrl hrl2 hz;go_enter Tryz.func215,Tryz.ntmps215
  go_wp2
  go_ret2
  exact oH.none_ HR.out (Below.refl _ _)
 have t2:(s.size:Int)<=5:=by omega
 by_cases hpm:c≠112/\c≠109
 ·rw[adk (.inr (.inr (.inl hpm)))]at hR
  have HR:=ah hR.symm
  have t3:(((s[0]'hp0).toNat:Int) !=112)=true:=by rw[e0,bne,show(112:Int)=((112:UInt8).toNat:Int) from rfl,OV,ac5 hpm.1];rfl
  have t4:(((s[0]'hp0).toNat:Int) !=109)=true:=by rw[e0,bne,show(109:Int)=((109:UInt8).toNat:Int) from rfl,OV,ac5 hpm.2];rfl
  clear hR hsg hsz hl h2 h5 e0 e1 hzl hzs hrl hrl2 hz hpm
  go_enter Tryz.func215,Tryz.ntmps215;go_wp2
  go_ret2
  exact oH.none_ HR.out (Below.refl _ _)
 have hcc:c=112\/c=109:=by
  by_cases h:c=112
  ·exact .inl h
  exact .inr (anR fun h'=>hpm ⟨h,h'⟩)
 have hI:=Y8 z w (by omega)
 rw[hzl]at hI
 rcases hcc with hcv|hcv
 ·subst hcv
  have t3:(((s[0]'hp0).toNat:Int) !=112)=false:=by rw[e0];rfl
  have t4:(((s[0]'hp0).toNat:Int) !=109)=true:=by rw[e0];rfl
  have t9:(((s[0]'hp0).toNat:Int) == 109)=false:=by rw[e0];rfl
  cases hi:Num.isInt (d :: r') with
  |false=>
   rw[hi]at hI;rw[adk (.inr (.inr (.inr (.inl hi))))]at hR;have HR:=ah hR.symm
   have HI:=ah hI;clear hR hsg hsz hl h2 h5 e0 e1 hzl hzs hrl hrl2 hI hi hpm
   go_enter Tryz.func215,Tryz.ntmps215;go_wp2_with fail;refine HI.mono ?_
   rintro e w' ⟨rfl,rfl⟩;go_wp2
   go_ret2
   exact oH.none_ HR.out (Below.refl _ _)
  |true=>
   rw[hi]at hI;by_cases sK:d=45
   ·rw[adk (.inr (.inr (.inr (.inr (.inl (by rw[sK];rfl))))))]at hR
    have HR:=ah hR.symm;have HI:=ah hI
    have t5:(((s[1]'hp1).toNat:Int) == 45)=true:=by rw[e1,sK];rfl
    clear hR hsg hsz hl h2 h5 e0 e1 hzl hzs hrl hrl2 hI hi hpm sK
    go_enter Tryz.func215,Tryz.ntmps215;go_wp2_with fail;refine HI.mono ?_
    rintro e w' ⟨rfl,rfl⟩;go_wp2
    go_ret2
    exact oH.none_ HR.out (Below.refl _ _)
   have t5:(((s[1]'hp1).toNat:Int) == 45)=false:=by rw[e1,show(45:Int)=((45:UInt8).toNat:Int) from rfl,OV,ac5 sK]
   have hhd:(d :: r':List UInt8).head?≠some 45:=by simp[sK]
   have hg:=Num.SI hi hhd;have hlen: ¬4<(d :: r':List UInt8).length:=by omega
   rw[ade (by
    rintro(h|h|h|h|h|h)
    ·cases h
    ·exact hlen h
    ·exact hpm h
    ·rw[hi]at h;cases h
    ·exact hhd h
    exact absurd h.1 (by decide))]at hR
   have t6:(s.toList ==[109,48])=false:=by
    rw[Lib.toList_data,hl];rfl
   have hk:Num.aQ 0 (d :: r')<10000:=by
    have h1:=Num.EI (d :: r') 0 hg.1
    have h3:10 ^(d :: r':List UInt8).length<=10 ^ 4:=afa (by decide) (by omega)
    have e4:(10:Nat) ^ 4=10000:=by decide
    omega
   obtain⟨k,hkk⟩:=aj (Num.aQ 0 (d :: r'))
   have hat:Lib.atoiAll z.data.toList=.ok (k:Int):=by
    rw[hzl,<-Lib.parseIntB_64];have:=Num.SA hg;rw[hkk]at this
    rw[show(d :: r':List UInt8)=Num.sg false ++(d :: r') from rfl,this,ade (by unfold Num.over;simp;omega)]
    rfl
   rw[hkk]at hk;have hE:Num.uS 112 (d :: r')=(k:Int):=by rw[Num.SH (by decide),hkk]
   rw[hE]at hR
   have hca:=(Tryz.strconv_Atoi_ok z (by omega) (k:Int) hat w).mono fun e w' ⟨h1,h2⟩=>(⟨h1,below_bytesWorld h2⟩:e=Ending.returned (.tuple #[.int .i64 (k:Int),.nilIface])/\Below w.heap.size w w')
   have xq:=ah hca;have HR:=ah hR.symm;have HI:=ah hI;have hki:(k:Int)<=9999:=by omega
   have amS:(0:Int)<=k:=by omega
   clear hR hsg hsz hl h2 h5 e0 e1 hzl hzs hrl hrl2 hI hi hpm sK hhd hg hlen hk hkk hat hE hca
   by_cases hbd:(k:Int)<=1023
   ·have hbd2: -1074<=(k:Int):=by omega
    have hr:=HR.out;rw[adk ⟨hbd,hbd2⟩]at hr;have HR2:=ah hr;clear hr
    go_enter Tryz.func215,Tryz.ntmps215;go_wp2_with fail;refine HI.mono ?_
    rintro e w' ⟨rfl,rfl⟩;go_wp2_with fail;refine xq.mono ?_;rintro e w1 ⟨rfl,hb1⟩
    have HB1:=ah hb1;clear hb1;go_wp2
    go_ret2
    exact oH.some_ HR2.out HB1.out
   have hr:=HR.out;rw[ade (by omega)]at hr
   have HR2:=ah hr;have hbd2:(1023:Int)<k:=by omega
   skip
   clear hr;go_enter Tryz.func215,Tryz.ntmps215;go_wp2_with fail;refine HI.mono ?_
   rintro e w' ⟨rfl,rfl⟩;go_wp2_with fail;refine xq.mono ?_;rintro e w1 ⟨rfl,hb1⟩
   have HB1:=ah hb1;clear hb1;go_wp2
   go_ret2
   exact oH.none_ HR2.out HB1.out
 subst hcv;have t3:(((s[0]'hp0).toNat:Int) !=112)=true:=by rw[e0];rfl
 have t4:(((s[0]'hp0).toNat:Int) !=109)=false:=by rw[e0];rfl
 have t9:(((s[0]'hp0).toNat:Int) == 109)=true:=by rw[e0];rfl
 cases hi:Num.isInt (d :: r') with
 |false=>
  rw[hi]at hI;rw[adk (.inr (.inr (.inr (.inl hi))))]at hR;have HR:=ah hR.symm
  have HI:=ah hI;clear hR hsg hsz hl h2 h5 e0 e1 hzl hzs hrl hrl2 hI hi hpm
  go_enter Tryz.func215,Tryz.ntmps215;go_wp2_with fail;refine HI.mono ?_
  rintro e w' ⟨rfl,rfl⟩;go_wp2
  go_ret2
  exact oH.none_ HR.out (Below.refl _ _)
 |true=>
  rw[hi]at hI;by_cases sK:d=45
  ·rw[adk (.inr (.inr (.inr (.inr (.inl (by rw[sK];rfl))))))]at hR
   have HR:=ah hR.symm;have HI:=ah hI
   have t5:(((s[1]'hp1).toNat:Int) == 45)=true:=by rw[e1,sK];rfl
   clear hR hsg hsz hl h2 h5 e0 e1 hzl hzs hrl hrl2 hI hi hpm sK
   go_enter Tryz.func215,Tryz.ntmps215;go_wp2_with fail;refine HI.mono ?_
   rintro e w' ⟨rfl,rfl⟩;go_wp2
   go_ret2
   exact oH.none_ HR.out (Below.refl _ _)
  have t5:(((s[1]'hp1).toNat:Int) == 45)=false:=by rw[e1,show(45:Int)=((45:UInt8).toNat:Int) from rfl,OV,ac5 sK]
  have hhd:(d :: r':List UInt8).head?≠some 45:=by simp[sK]
  by_cases hm0:(d :: r':List UInt8)=[48]
  ·rw[adk (.inr (.inr (.inr (.inr (.inr ⟨rfl,hm0⟩)))))]at hR
   have HR:=ah hR.symm;have HI:=ah hI
   have t6:(s.toList ==[109,48])=true:=by rw[Lib.toList_data,hl,hm0];rfl
   clear hR hsg hsz hl h2 h5 e0 e1 hzl hzs hrl hrl2 hI hi hpm sK hhd hm0
   go_enter Tryz.func215,Tryz.ntmps215;go_wp2_with fail;refine HI.mono ?_
   rintro e w' ⟨rfl,rfl⟩;go_wp2
   go_ret2
   exact oH.none_ HR.out (Below.refl _ _)
  have hg:=Num.SI hi hhd;have hlen: ¬4<(d :: r':List UInt8).length:=by omega
  rw[ade (by
   rintro(h|h|h|h|h|h)
   ·cases h
   ·exact hlen h
   ·exact hpm h
   ·rw[hi]at h;cases h
   ·exact hhd h
   exact hm0 h.2)]at hR
  have t6:(s.toList ==[109,48])=false:=by
   rw[Lib.toList_data,hl];cases hq:((109 :: d :: r':List UInt8) ==[109,48]) with
   |false=>rfl
   |true=>exact absurd (List.cons.inj (eq_of_beq hq)).2 hm0
  have hk:Num.aQ 0 (d :: r')<10000:=by
   have h1:=Num.EI (d :: r') 0 hg.1
   have h3:10 ^(d :: r':List UInt8).length<=10 ^ 4:=afa (by decide) (by omega)
   have e4:(10:Nat) ^ 4=10000:=by decide
   omega
  obtain⟨k,hkk⟩:=aj (Num.aQ 0 (d :: r'))
  have hat:Lib.atoiAll z.data.toList=.ok (k:Int):=by
   rw[hzl,<-Lib.parseIntB_64];have:=Num.SA hg;rw[hkk]at this
   rw[show(d :: r':List UInt8)=Num.sg false ++(d :: r') from rfl,this,ade (by unfold Num.over;simp;omega)]
   rfl
  rw[hkk]at hk;have hE:Num.uS 109 (d :: r')= -(k:Int):=by rw[Num.SE,hkk]
  rw[hE]at hR
  have hca:=(Tryz.strconv_Atoi_ok z (by omega) (k:Int) hat w).mono fun e w' ⟨h1,h2⟩=>(⟨h1,below_bytesWorld h2⟩:e=Ending.returned (.tuple #[.int .i64 (k:Int),.nilIface])/\Below w.heap.size w w')
  have xq:=ah hca;have HR:=ah hR.symm;have HI:=ah hI;have hki:(k:Int)<=9999:=by omega
  have amS:(0:Int)<=k:=by omega
  clear hR hsg hsz hl h2 h5 e0 e1 hzl hzs hrl hrl2 hI hi hpm sK hhd hg hlen hk hkk hat hE hca hm0
  by_cases hbd: -1074<= -(k:Int)
  ·have hbd2: -(k:Int)<=1023:=by omega
   have hr:=HR.out;rw[adk ⟨hbd2,hbd⟩]at hr;have HR2:=ah hr;clear hr
   go_enter Tryz.func215,Tryz.ntmps215;go_wp2_with fail;refine HI.mono ?_
   rintro e w' ⟨rfl,rfl⟩;go_wp2_with fail;refine xq.mono ?_;rintro e w1 ⟨rfl,hb1⟩
   have HB1:=ah hb1;clear hb1;go_wp2
   go_ret2
   exact oH.some_ HR2.out HB1.out
  have hr:=HR.out;rw[ade (by omega)]at hr
  have HR2:=ah hr;have hbd2: -(k:Int)< -1074:=by omega
  have aps: -(k:Int)<=1023:=by omega
  have apt:(1074:Int)<k:=by omega
  have apu:decide ((k:Int)<=1074)=false:=ac5 (by omega)
  clear hr;go_enter Tryz.func215,Tryz.ntmps215;go_wp2_with fail;refine HI.mono ?_
  rintro e w' ⟨rfl,rfl⟩;go_wp2_with fail;refine xq.mono ?_;rintro e w1 ⟨rfl,hb1⟩
  have HB1:=ah hb1;clear hb1;go_wp2
  go_ret2
  exact oH.none_ HR2.out HB1.out
end Go.Proofs.YtkdakckjafomhaaGreatDoor
namespace Go.Proofs.YtkdakckjafomhaaGreatDoor
open Go.RowKit Go.Lib
theorem ahy (s:ByteArray) (w:World) (_hs:s.size<=1048576) (hascii: ∀(j:Nat) b,s.data.toList[j]?=some b->b.toNat<128):
  Calls Tryz.prog 159 #[.string s,.int .i32 65533] w fun e w'=>e=.returned (.int .i64 (-1))/\ ∃pos,w'=w.iter s pos:=by
 have HA:=ah hascii;clear hascii;go_enter Tryz.func159,Tryz.ntmps159;go_wp2
 go_loopg [5,6] s.size (fun g _ _ wx=> ∃i:Nat,i+g=s.size/\wx=w.iter s i)
 case atStart=>exact⟨0,by omega,rfl⟩
 obtain⟨i,hig,rfl⟩:=hrel;cases gk with
 |zero=>
  obtain rfl:i=s.size:=by omega
  have hnx:=run_next_end (P:=Tryz.prog) w s s.size;go_wp2;go_ret;exact⟨rfl,_,rfl⟩
 |succ g=>
  have hi:i<s.size:=by omega
  obtain⟨x,hx⟩:=aj (s[i]'hi:UInt8)
  have hx128:x.toNat<128:=HA.out i x (by rw[<-hx];exact Lib.data_getElem? s i hi)
  have hnx:=fun ty=>run_next_ascii (P:=Tryz.prog) w s i ty hi (by rw[hx];exact hx128)
  rw[hx]at hnx;have hne:((x.toNat:Int) == 65533)=false:=by simp;omega
  clear hx;go_wp2
  go_roundg g
  case measure=>omega
  exact⟨i+1,by omega,rfl⟩
theorem ahz (s:ByteArray) (hascii: ∀(j:Nat) b,s.data.toList[j]?=some b->b.toNat<128) (k:Nat) (_hk:k<=s.size) (c:UInt8) (hc:128<=c.toNat):Lib.indexByte ((s.extract k s.size).data.toList) c= -1:=by
 have hno: ∀(l:List UInt8),(∀b∈l,b.toNat<128)->Lib.indexByte l c= -1:=by
  intro l
  induction l with
  |nil=>intro _;rfl
  |cons b l ih=>
   intro h;have hb:b≠c:=fun e=>by subst e;have:=h b (by simp);omega
   rw[Lib.indexByte,ih (fun x hx=>h x (by simp[hx]))]
   simp[hb]
 refine hno _ fun b hb=> ?_
 rw[Lib.extract_data]at hb;obtain⟨j,hj⟩:=apC.1 hb;have:=aoE (anU hb)
 obtain⟨j,hj⟩:=apC.1 this;exact hascii j b hj
theorem ahA (s:ByteArray) (r:Nat) (w:World) (_hs:s.size<=1048576) (hascii: ∀(j:Nat) b,s.data.toList[j]?=some b->b.toNat<128)
  (hr:128<=r) (hr':r<=1114111) (hne:r≠65533) (hv:Utf8.valid (r:Int)=true):
  Calls Tryz.prog 159 #[.string s,.int .i32 r] w fun e w'=>e=.returned (.int .i64 (-1))/\ ∃n,w'=w.drewN n:=by
 obtain⟨e2,e4,elast⟩:=aho r hr;have h1:((r:Int) == 65533)=false:=by simp;omega
 have h128: ¬((r:Int)<128):=by omega
 have hvr:Lib.validRune r=true:=by
  simp only[Utf8.valid,af7,aeW,aei]at hv;simp[Lib.validRune];omega
 have hcv: ∀wx:World,Calls Tryz.prog 205 #[.int .i32 r] wx fun e w'=>e=.returned (.bool true)/\wx=w':=fun wx=>
  (Tryz.utf8_ValidRune _ wx).mono fun e w' ⟨he,hw⟩=>⟨by rw[he,hvr],hw.symm⟩
 go_enter Tryz.func159,Tryz.ntmps159
 go_wp2_with (go_at_call 205;refine(hcv _).mono ?_;rintro e w' ⟨rfl,rfl⟩);clear hcv hvr
 obtain⟨m,hm⟩: ∃m,(Utf8.encode (r:Int)).size=m+1:=⟨(Utf8.encode (r:Int)).size - 1,by omega⟩
 go_step3
 go_wp2;obtain⟨rs,hrs⟩:=aj (Utf8.encode (r:Int));rw[hrs]at e2 e4 elast hm⊢
 have EL:=ah elast;have HA:=ah hascii;clear hrs elast hascii hv hne h1
 refine wp_loop_rounds 1 ?_;rw[rounds_succ];by_cases hlt:m<s.size
 ·have HL:(s[m]'hlt).toNat<128:=HA.out m _ (Lib.data_getElem? s _ hlt)
  have HR:128<=(rs[m]'(by omega)).toNat:=by rw[<-get_at];have:=EL.out;rwa [hm]at this
  have hh:decide (m<s.size)=true:=by simp;omega
  go_wp2
  go_step3
  go_wp2;have xu:(m:Int)<m+1:=by omega
  have hne:((s[m]'hlt).toNat:Int)≠((rs[m]'(by omega)).toNat:Int):=by omega
  have hneb:(((s[m]'hlt).toNat:Int) ==((rs[m]'(by omega)).toNat:Int))=false:=by simp;omega
  have hib: ∀wx:World,Calls Tryz.prog 163 #[.string (s.extract (m+1) s.size),.int .u8 ((rs[m]'(by omega)).toNat:Int)] wx fun e w'=>e=.returned (.int .i64 (-1))/\w'=wx:=fun wx=>
   (Tryz.strings_IndexByte _ _ wx).mono fun e w' ⟨he,hw⟩=>⟨by rw[he,ahz s HA.out (m+1) (by omega) _ (by simpa using HR)],hw⟩
  go_quiet (fail)
  go_wp2
  go_quiet ((go_at_call 163;exact ET (hib _)))
  go_wp2;simp only[Exit.noGoto_ret,Exit.inBlock,Exit.then];go_ret;exact⟨rfl,_,rfl⟩
 have hh:decide (m<s.size)=false:=by simp;omega
 go_wp2;rw[Exit.noGoto_ret];go_ret;exact⟨rfl,0,rfl⟩
theorem ahB: ∀w,(zeroValue 219).run Tryz.prog w=.ok (.agg (Array.replicate 256 (.bool false))) w:=
 (zero_of_info (n:=256) (show(Tryz.prog.info? 219).map (fun i=>(i.zero,i.size))=some (some (.agg (Array.replicate 256 (.bool false))),256) by kernel_rfl)).1
theorem ahC {cs:ByteArray} (hascii: ∀(j:Nat) b,cs.data.toList[j]?=some b->b.toNat<128) (b:UInt8) (hb:128<=b.toNat):cs.data.toList.contains b=false:=by
 cases h:cs.data.toList.contains b with
 |false=>rfl
 |true=>
  obtain⟨j,hj⟩:=apC.1 (List.contains_iff_mem.1 h);have:=hascii j b hj;omega
theorem ahD {s cs:ByteArray} {i n:Nat} (hascii: ∀(j:Nat) b,cs.data.toList[j]?=some b->b.toNat<128) (h:Lib.NoAny s.data.toList cs.data.toList i)
  (hn:i+n<=s.size) (hb: ∀j,i<=j->j<i+n->128<=(s.get! j).toNat):Lib.NoAny s.data.toList cs.data.toList (i+n):=fun j b hj hx=>by
 by_cases e:j<i
 ·exact h j b e hx
 have:=hb j (by omega) hj
 rw[get_at s j (by omega)]at this
 rw[yZ s j (by omega)]at hx
 cases hx;exact ahC hascii _ this
theorem ahE (cs:ByteArray) (c:Nat) (w:World) (hc:cs.size<=1048576) (hascii: ∀(j:Nat) b,cs.data.toList[j]?=some b->b.toNat<128) (h:128<=c->c<=1114111/\Utf8.valid (c:Int)=true):
  Calls Tryz.prog 159 #[.string cs,.int .i32 c] w fun e w'=>e=.returned (.int .i64 (if c<128 then Lib.indexByte cs.data.toList c.toUInt8 else -1))/\Below w.heap.size w w':=by
 by_cases hlt:c<128
 ·refine(Tryz.strings_IndexRune_ascii cs c w (by omega) (by omega)).mono fun e w' ⟨h,h'⟩=>⟨by rw[h,adk hlt];rfl,by rw[h'];exact Below.refl _ _⟩
 obtain⟨h1,h2⟩:=h (by omega)
 by_cases he:c=65533
 ·subst he
  refine(ahy cs w hc hascii).mono fun e w' ⟨h,pos,h'⟩=>⟨by rw[h,ade hlt],by rw[h'];exact(Below.refl _ _).alloc (ac4 _) _⟩
 refine(ahA cs c w hc hascii (by omega) h1 he h2).mono fun e w' ⟨h,n,h'⟩=>⟨by rw[h,ade hlt],by rw[h'];exact below_drewN (Below.refl _ _) n⟩
theorem below_iterAt {B:Nat} {w:World} {k:Nat} {s:ByteArray} {p:Nat} (_h:B<=w.heap.size) (hk:B<=k):Below B w (w.iterAt k s p):=
 ⟨rfl,rfl,rfl,by simp[World.iterAt],fun j hj=>by
  simp only[World.iterAt]
  rw[aoj,ade (by omega)]⟩
theorem Ij (s cs:ByteArray) (w:World) (hs:s.size<4294967281) (h2:2<=cs.size) (hc:cs.size<=1048576) (hascii: ∀(j:Nat) b,cs.data.toList[j]?=some b->b.toNat<128):
  Calls Tryz.prog 111 #[.string s,.string cs] w fun e w'=>e=.returned (.int .i64 (Lib.indexAny s.data.toList cs.data.toList))/\Below w.heap.size w w':=by
 by_cases h8:8<s.size
 ·refine(Tryz.strings_IndexAny_long ahB s cs w h2 h8 hs (by omega) hascii).mono fun e w' ⟨h,h'⟩=>⟨h, ?_⟩
  subst h';exact((Below.refl _ _).alloc (ac4 _) _).alloc (by simp) _
 have HA:=ah hascii;clear hascii
 have hemp:cs.toList.isEmpty=false:=by
  rw[Lib.toList_data];cases h:cs.data.toList with
  |nil=>have:=Lib.size_eq cs;rw[h,ae8]at this;omega
  |cons _ _=>rfl
 have hn1:((cs.size:Int) == 1)=false:=adh.2 (by omega)
 have h8z:decide ((8:Int)<(s.size:Int))=false:=ac5 (by omega)
 have hsu: ∀wx:World,Calls Tryz.prog 160 #[.int .i64 s.size] wx fun e w'=>e=.returned (.bool false)/\wx=w':=fun wx=>
  (Tryz.strings_shouldUseASCIISet _ wx).mono fun e w' ⟨he,hw⟩=>⟨by rw[he,h8z],hw.symm⟩
 go_enter Tryz.func111,Tryz.ntmps111
 go_wp2_with (go_at_call 160;refine(hsu _).mono ?_;rintro e w' ⟨rfl,rfl⟩)
 go_loopg [9,10] s.size (fun g _ _ wx=> ∃i:Nat,i+g=s.size/\wx.heap[w.heap.size]?=some (.stringIter s i)/\Below w.heap.size w wx/\Lib.NoAny s.data.toList cs.data.toList i)
 case atStart=>exact⟨0,by omega,World.iter_heap _ _ _,(Below.refl _ _).alloc (ac4 _) _,Lib.NoAny.zero _ _⟩
 obtain⟨i,hig,hit,hb,hno⟩:=hrel;have HN:=ah hno;have HI:=ah hit;clear hno;cases gk with
 |zero=>
  obtain rfl:i=s.size:=by omega
  have hnx:=fun ty=>Lib.run_next_end_at (P:=Tryz.prog) wr w.heap.size s s.size ty HI.out (by omega)
  clear hit;go_wp2;go_ret
  exact⟨by rw[Lib.indexAny_none (by rw[<-Lib.size_eq];exact HN.out)];rfl,hb⟩
 |succ g=>
  have hi:i<s.size:=by omega
  have hnx:=fun ty=>Lib.run_next_any_at (P:=Tryz.prog) wr w.heap.size s i ty HI.out hi
  clear hit;obtain⟨d,hd⟩:=aj (Utf8.decode s i);rw[hd]at hnx
  have Vp:=fun wx=>ahE cs d.1 wx hc HA.out (fun h128=>by
   by_cases h1:(s[i]'hi).toNat<128
   ·rw[decode_ascii s i hi h1]at hd;subst hd;omega
   obtain⟨_,a2,a3,_⟩:=decode_high s i hi (by omega)
   rw[hd]at a2 a3
   exact⟨a2,a3⟩)
  have HD:=ah hd;clear hd
  obtain⟨R,hR⟩:=aj ((if d.1<128 then Lib.indexByte cs.data.toList d.1.toUInt8 else -1):Int)
  rw[hR]at Vp;have HR:=ah hR;clear hR;by_cases h0:0<=R
  ·have h1:d.1<128:=by
    have:=HR.out
    split at this
    ·assumption
    omega
   go_wp2_with (go_at_call 159;refine(Vp _).mono ?_;rintro e w' ⟨rfl,hb'⟩);go_ret
   have hs1:(s[i]'hi).toNat<128:=by
    rcases am5 (s[i]'hi).toNat 128 with h|h
    ·exact h
    have:=(decode_high s i hi h).1;rw[HD.out]at this;omega
   have hd2:=decode_ascii s i hi hs1;rw[HD.out]at hd2;subst hd2;refine⟨?_, ?_⟩
   ·rw[Lib.indexAny_hit HN.out (yZ s i hi)]
    ·rfl
    rw[Lib.contains_iff_indexByte];have:=HR.out;simp only[hs1,aoH]at this;simp at this
    rw[this]
    simpa using h0
   exact(hb.trans (below_iterAt hb.size (ac4 _))).trans (hb'.mono (by simpa[World.iterAt] using hb.size))
  go_wp2_with (go_at_call 159;refine(Vp _).mono ?_;rintro e w' ⟨rfl,hb'⟩)
  have hb2:=(hb.trans (below_iterAt (s:=s) (p:=i+d.2) hb.size (ac4 _))).trans (hb'.mono (by simpa[World.iterAt] using hb.size))
  have hlt:w.heap.size<wr.heap.size:=(adZ.1 HI.out).1
  have hcase:1<=d.2/\i+d.2<=s.size/\Lib.NoAny s.data.toList cs.data.toList (i+d.2):=by
   by_cases h1:(s[i]'hi).toNat<128
   ·have hd2:=decode_ascii s i hi h1
    rw[HD.out]at hd2;subst hd2;refine⟨by simp,by simp;omega,HN.succ (yZ s i hi) ?_⟩
    have:=HR.out;simp only[h1,aoH]at this;simp at this
    rw[Lib.contains_iff_indexByte,this]
    simpa using h0
   obtain⟨_,_,_,a4,a5,a6⟩:=decode_high s i hi (by omega)
   rw[HD.out]at a4 a5 a6;exact⟨a4,a5,ahD HA.out HN.out a5 a6⟩
  obtain⟨a4,a5,a6⟩:=hcase
  go_roundg (s.size -(i+d.2))
  case measure=>omega
  exact⟨i+d.2,by omega,(hb'.block _ (by simpa[World.iterAt] using hlt)).trans (by simp[World.iterAt,hlt]),hb2,a6⟩
end Go.Proofs.YtkdakckjafomhaaGreatDoor
