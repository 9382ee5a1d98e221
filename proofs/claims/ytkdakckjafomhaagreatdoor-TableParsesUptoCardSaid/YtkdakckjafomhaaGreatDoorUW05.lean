/- Contracts and plain laws,part 5. -/
import Derived.Test.YtkdakckjafomhaaGreatDoorUW04
import Derived.Deep.QuietTactic
import Derived.BigQuiet
import Derived.Deep.AppendLies
import Derived.Deep.Draws
import Derived.Maps.AppendAt
import Derived.RegionTactic
import Derived.Laws.RangeAny
import Derived.Lib.IndexAny
import Derived.Lib.OthersKept
import Derived.StillTailTactics
import Derived.Deep.RegionWith
import Derived.Deep.RegionHeld3
set_option maxHeartbeats 64000000
set_option maxRecDepth 1000000
set_option linter.all false
namespace Go.Proofs.YtkdakckjafomhaaGreatDoor
open Go.RowKit
theorem CX (b:Bool):(some undef=some (Value.bool b))=False:=by simp[undef]
def Reads (w:World) (B size:Nat) (A:Option Addr) (n:Nat) (xs:List Value):Prop:=
 xs.length=n*size/\(0<n-> ∃b off,A=some ⟨b,off,none⟩/\b<B/\ ∀j u,xs[j]?=some u->w.cell? ⟨b,off+j,none⟩=some u)
section
variable {w w':World} {B B' size n:Nat} {A:Option Addr} {xs:List Value}
theorem Reads.none_:Reads w B size A 0 []:=⟨by simp,fun h=>absurd h (by omega)⟩
theorem Reads.at_ {k:Nat} (h:Reads w B 1 A n xs) (hk:k<n): ∃b off u,A=some ⟨b,off,none⟩/\b<B/\xs[k]?=some u/\w.cell? ⟨b,off+k,none⟩=some u:=by
 obtain⟨b,off,e,hb,hc⟩:=h.2 (by omega)
 have hl:k<xs.length:=by have:=h.1;omega
 exact⟨b,off,xs[k],e,hb,dF hl,hc k _ (dF hl)⟩
theorem Reads.keep (h:Reads w B size A n xs) (hk: ∀p:Addr,p.block<B->w'.cell? p=w.cell? p):Reads w' B size A n xs:=
 ⟨h.1,fun hn=>by
  obtain⟨b,off,e,hb,hc⟩:=h.2 hn
  exact⟨b,off,e,hb,fun j u hu=>(hk _ hb).trans (hc j u hu)⟩⟩
theorem Reads.more (h:Reads w B size A n xs) (hB:B<=B'):Reads w B' size A n xs:=
 ⟨h.1,fun hn=>by
  obtain⟨b,off,e,hb,hc⟩:=h.2 hn
  exact⟨b,off,e,by omega,hc⟩⟩
theorem Reads.below (h:Reads w B size A n xs) (hb:Below B w w'):Reads w' B size A n xs:=h.keep fun _ hp=>hb.cell hp
theorem Reads.dI {base:Nat} {e:TypeId} {c:Nat} (h:w.ownsRow base e size (.slice A n c) n xs):Reads w w.heap.size size A n xs:=by
 refine⟨h.1,fun hn=> ?_⟩
 obtain⟨g,cap,hv,_,hlt⟩:=h.form hn;have hA:A=some ⟨g,0,none⟩:=by injection hv
 subst hA;refine⟨g,0,rfl,hlt,fun j u hu=> ?_⟩
 have:=h.cells (g:=g) rfl j u hu
 have e:(⟨g,0,none⟩:Addr).add j=⟨g,0+j,none⟩:=by unfold Addr.add;split<;>simp_all
 rwa [e]at this
end
def au (w:World) (g:Nat) (t:TypeId) (cs:Array Value):Prop:=w.heap[g]?=some (.cells cs t (0,0))
section
variable {w w':World} {g:Nat} {t:TypeId} {cs:Array Value}
theorem au.lt (h:au w g t cs):g<w.heap.size:=by
 rcases am5 g w.heap.size with hlt|hge
 ·exact hlt
 unfold au at h;rw[aog hge]at h;cases h
theorem au.cell (h:au w g t cs) (i:Nat):w.cell? ⟨g,i,none⟩=cs[i]?:=cell_of_row w g i cs t (0,0) h
theorem au.frozen (h:au w g t cs) (i:Nat):w.frozen? ⟨g,i,none⟩=false:=by
 unfold au at h;simp[World.frozen?,h]
theorem au.new (w:World) (t:TypeId) (cs:Array Value):au (w.alloc (.cells cs t)) w.heap.size t cs:=heap_alloc_new w _
theorem au.alloc (h:au w g t cs) (o:Obj):au (w.alloc o) g t cs:=(Below.heap_alloc w o g h.lt).trans h
theorem au.bP (h:au w g t cs) (i:Nat) (u:Value):au (w.setCell ⟨g,i,none⟩ u) g t (cs.setIfInBounds i u):=by
 unfold au at h⊢;simp[World.setCell,apB,h]
theorem au.far (h:au w g t cs) {p:Addr} (hp:g≠p.block) (u:Value):au (w.setCell p u) g t cs:=(Below.heap_setCell w p u g hp).trans h
theorem au.below {B:Nat} (h:au w g t cs) (hb:Below B w w') (hg:g<B):au w' g t cs:=(hb.block g hg).trans h
theorem au.grown {row:Option Nat} (h:au w g t cs) (hb:w.grownBy w' row) (hg:some g≠row):au w' g t cs:=(hb.block g h.lt hg).trans h
theorem au.ne_ {g':Nat} {t':TypeId} {cs':Array Value} (h:au w g t cs) (h':au w g' t' cs') (hne:t≠t'):g≠g':=by
 rintro rfl;unfold au at h h';rw[h]at h'
 injection h' with h'
 injection h' with _ ht
 exact hne ht
theorem ES {base:Nat} {e:TypeId} {size n:Nat} {v:Value} {xs:List Value} (h:w.ownsRow base e size v n xs) (hg:au w g t cs) (hne:e≠t):v.ownBlock≠some g:=by
 rcases h.2 with⟨rfl,_⟩|⟨g',cap,cur,rfl,_,hh,_⟩
 ·simp[Value.ownBlock]
 intro he;have:g'=g:=by simpa[Value.ownBlock] using he
 subst this;exact au.ne_ (t:=e) hh hg hne rfl
end
theorem ET {P:Program} {f:FuncId} {args:Array Value} {w:World} {a n:Nat} {v:Value}
  (h:Calls P f args (w.drewN (a+n)) fun e w'=>e=.returned v/\w'=w.drewN (a+n)):
  Calls P f args (w.drewN (a+n)) fun e w''=>e=.returned v/\ ∃m,w''=w.drewN (a+m):=
 h.mono fun _ _ ⟨he,hm⟩=>⟨he,n,hm⟩
theorem aF {w:World} {base e size n:Nat} {v:Value} {xs:List Value} (h:w.ownsRow base e size v n xs): ∃A c,v=.slice A n c:=by
 rcases h.2 with⟨rfl,rfl⟩|⟨g,cap,cur,rfl,_⟩
 ·exact⟨_,_,rfl⟩
 exact⟨_,_,rfl⟩
theorem tY {w:World} {base e size n:Nat} {v:Value} {xs:List Value} (h:w.ownsRow base e size v n xs): ∀i,v.ownBlock=some i->base<=i/\ ∃c,w.heap[i]?=some (.cells c e (0,0)):=fun i he=>by
 refine⟨(h.lt i he).1, ?_⟩
 rcases h.2 with⟨hv,_⟩|⟨g,cap,cur,hv,_,hh,_⟩
 ·rw[hv]at he;simp[Value.ownBlock]at he
 rw[hv]at he;simp[Value.ownBlock]at he;subst he;exact⟨_,hh⟩
theorem aW {w w':World} {base e size n:Nat} {row:Option Nat} {v:Value} {xs:List Value} (h:w.ownsRow base e size v n xs) (hg:w.grownBy w' row) (hty: ∀g c t fz,row=some g->w.heap[g]?=some (.cells c t fz)->t≠e):w'.ownsRow base e size v n xs:=by
 refine h.kept hg ?_;cases hv:v.ownBlock with
 |none=>exact .inl rfl
 |some i=>
  refine .inr (fun hr=> ?_)
  obtain⟨_,c,hc⟩:=tY h i hv;exact hty i c e _ hr.symm hc rfl
theorem own_base {w:World} {base base' e size n:Nat} {v:Value} {xs:List Value} (h:w.ownsRow base e size v n xs) (hb:base'<=base):w.ownsRow base' e size v n xs:=by
 refine⟨h.1, ?_⟩
 rcases h.2 with hn|⟨g,cap,cur,rfl,hg,rest⟩
 ·exact .inl hn
 exact .inr ⟨g,cap,cur,rfl,by omega,rest⟩
theorem below_drewN {B:Nat} {a w:World} (h:Below B a w) (n:Nat):Below B a (w.drewN n):=⟨h.os,h.tape,h.output,h.size,h.block⟩
theorem mO (w:World) (row:Option Nat):w.grownBy w row:=World.grownBy.refl w _
theorem tZ {a b c:World} {row:Option Nat} (h:a.grownBy b row) (k:b.grownBy c row):a.grownBy c row:=
 ⟨k.os.trans h.os,k.tape.trans h.tape,k.output.trans h.output,adg h.size k.size,fun i hi hne=>(k.block i (adW hi h.size) hne).trans (h.block i hi hne)⟩
theorem nS {a w:World} {row:Option Nat} (h:a.grownBy w row) (n:Nat):a.grownBy (w.drewN n) row:=⟨h.os,h.tape,h.output,h.size,h.block⟩
theorem JB {a w:World} {row:Option Nat} (h:a.grownBy w row):a.grownBy w.drew row:=⟨h.os,h.tape,h.output,h.size,h.block⟩
theorem wO {a w:World} {row:Option Nat} (h:a.grownBy w row) (o:Obj):a.grownBy (w.alloc o) row:=
 ⟨h.os,h.tape,h.output,adg h.size (by simp),fun i hi hne=>(Below.heap_alloc w o i (adW hi h.size)).trans (h.block i hi hne)⟩
theorem wQ {a w:World} {g:Nat} (h:a.grownBy w (some g)) {p:Addr} (hp:p.block=g\/a.heap.size<=p.block) (u:Value):a.grownBy (w.setCell p u) (some g):=
 ⟨h.os,h.tape,h.output,by simpa[World.setCell] using h.size,fun i hi hne=>(Below.heap_setCell w p u i (by
  rintro rfl
  rcases hp with hp|hp
  ·exact hne (by rw[hp])
  omega)).trans (h.block i hi hne)⟩
theorem dL {a w:World} (h:Below a.heap.size a w) (row:Option Nat):a.grownBy w row:=⟨h.os,h.tape,h.output,h.size,fun i hi _=>h.block i hi⟩
theorem EU {a b w:World} {row:Option Nat} (h:a.grownBy b row) (k:Below b.heap.size b w):a.grownBy w row:=tZ h (dL k row)
theorem OM {a m w:World} {B g:Nat} (h:a.grownBy m (some g)) (k:Below B m w) (hB:a.heap.size<=B):a.grownBy w (some g):=
 ⟨k.os.trans h.os,k.tape.trans h.tape,k.output.trans h.output,adg h.size k.size,fun i hi hne=>(k.block i (by omega)).trans (h.block i hi hne)⟩
theorem ahn {a m w:World} {g:Nat} {row:Option Nat} (h:a.grownBy m (some g)) (k:m.grownBy w row) (hr: ∀i,row=some i->a.heap.size<=i):a.grownBy w (some g):=
 ⟨k.os.trans h.os,k.tape.trans h.tape,k.output.trans h.output,adg h.size k.size,fun i hi hne=>(k.block i (adW hi h.size) (fun e=>by have:=hr i e.symm;omega)).trans (h.block i hi hne)⟩
theorem JC {a b:Value} (h:a=b):Ending.returned a=Ending.returned b:=by rw[h]
theorem int_eq {k:IntKind} {a b:Int} (h:a=b):Value.int k a=Value.int k b:=by rw[h]
theorem get_at (s:ByteArray) (i:Nat) (h:i<s.size):s.get! i=s[i]'h:=by
 simp[ByteArray.get!,anx,h];rfl
theorem yZ (s:ByteArray) (i:Nat) (h:i<s.size):s.data.toList[i]?=some (s[i]'h):=Lib.data_getElem? s i h
theorem decode_high (s:ByteArray) (i:Nat) (h:i<s.size) (hc:128<=(s[i]'h).toNat):
  128<=(Utf8.decode s i).1/\(Utf8.decode s i).1<=1114111/\Utf8.valid (((Utf8.decode s i).1:Nat):Int)=true/\1<=(Utf8.decode s i).2/\i+(Utf8.decode s i).2<=s.size/\
  ∀j,i<=j->j<i+(Utf8.decode s i).2->128<=(s.get! j).toNat:=by
 have e0:128<=(s.get! (i+0)).toNat:=by rw[aft,get_at s i h];exact hc
 have hv:Utf8.valid ((65533:Nat):Int)=true:=by decide
 have e00:(s.get! (i+0)).toNat=(s.get! i).toNat:=rfl
 have one: ∀j,i<=j->j<i+1->128<=(s.get! j).toNat:=fun j h1 h2=>by
  obtain rfl:j=i:=by omega
  simpa using e0
 unfold Utf8.decode;simp only[Utf8.runeError];rw[ade (by omega)]
 split
 ·rename_i h2
  simp only[aeW,aeI,aei]at h2;obtain⟨a1,a2,a3⟩:=h2
  split
  ·refine⟨by simp;omega,by simp;omega, ?_,by simp,by simp;omega,fun j h1 h2=> ?_⟩
   ·simp[Utf8.valid];omega
   have:j=i+0\/j=i+1:=by simp at h2;omega
   rcases this with rfl|rfl<;>omega
  exact⟨by simp,by simp,hv,by simp,by simp;omega,one⟩
 split
 ·rename_i h2
  simp only[aeW,aeI,aei]at h2;obtain⟨⟨a1,a2,a3⟩,a4,a5⟩:=h2
  split
  ·rename_i hv2
   simp only[ge_iff_le,aeW,aei]at hv2
   refine⟨by simp;omega,by simp;omega,hv2.2,by simp,by simp;omega,fun j h1 h2=> ?_⟩
   have:j=i+0\/j=i+1\/j=i+2:=by simp at h2;omega
   rcases this with rfl|rfl|rfl<;>omega
  exact⟨by simp,by simp,hv,by simp,by simp;omega,one⟩
 split
 ·rename_i h2
  simp only[aeW,aeI,aei]at h2;obtain⟨⟨⟨a1,a2,a3⟩,a4,a5⟩,a6,a7⟩:=h2
  split
  ·rename_i hv2
   simp only[ge_iff_le,aeW,aei]at hv2
   have hm:(s.get! (i+0)).toNat % 8*262144+(s.get! (i+1)).toNat % 64*4096+(s.get! (i+2)).toNat % 64*64+(s.get! (i+3)).toNat % 64<=1114111:=by
    have:=hv2.2;simp only[Utf8.valid,af7,aeW,aei]at this;omega
   refine⟨by simp;omega,by simpa using hm,hv2.2,by simp,by simp;omega,fun j h1 h2=> ?_⟩
   have:j=i+0\/j=i+1\/j=i+2\/j=i+3:=by simp at h2;omega
   rcases this with rfl|rfl|rfl|rfl<;>omega
  exact⟨by simp,by simp,hv,by simp,by simp;omega,one⟩
 exact⟨by simp,by simp,hv,by simp,by simp;omega,one⟩
theorem aho (r:Nat) (h:128<=r):2<=(Utf8.encode (r:Int)).size/\(Utf8.encode (r:Int)).size<=4/\128<=((Utf8.encode (r:Int)).get! ((Utf8.encode (r:Int)).size - 1)).toNat:=by
 unfold Utf8.encode;simp only[Utf8.runeError]
 split<;>(try rename_i hv)
 ·simp only[ao5]
  rw[ade (by omega)]
  split
  ·exact⟨(by show 2<=2;omega),(by show 2<=4;omega),(by show 128<=(UInt8.ofNat (128+r % 64)).toNat;simp;omega)⟩
  split
  ·exact⟨(by show 2<=3;omega),(by show 3<=4;omega),(by show 128<=(UInt8.ofNat (128+r % 64)).toNat;simp;omega)⟩
  exact⟨(by show 2<=4;omega),(by show 4<=4;omega),(by show 128<=(UInt8.ofNat (128+r % 64)).toNat;simp;omega)⟩
 decide
theorem Zd (l:List UInt8) (c:UInt8):(Lib.indexByte l c= -1/\ ∀x∈l,x≠c)\/ ∃(n:Nat) (r:List UInt8),Lib.indexByte l c=(n:Int)/\l=l.take n++c :: r/\(∀x∈l.take n,x≠c)/\n<l.length:=by
 induction l with
 |nil=>exact .inl ⟨rfl,fun x hx=>by cases hx⟩
 |cons a l ih=>
  rw[Lib.indexByte];by_cases h:a=c
  ·subst h
   exact .inr ⟨0,l,by simp,by simp,by simp,by simp⟩
  have hb:(a == c)=false:=by simpa using h
  rw[hb]
  rcases ih with⟨h1,h2⟩|⟨n,r,h1,h2,h3,h4⟩
  ·refine .inl ⟨by simp[h1],fun x hx=> ?_⟩
   rcases aeY.1 hx with rfl|hx
   ·exact h
   exact h2 x hx
  refine .inr ⟨n+1,r, ?_, ?_, ?_,by simp;omega⟩
  ·rw[h1,ade (by simp),ade (fun e=>by have:=aeI.1 e;omega)];simp
  ·rw[amL,afq,<-h2]
  intro x hx;rw[amL]at hx
  rcases aeY.1 hx with rfl|hx
  ·exact h
  exact h3 x hx
end Go.Proofs.YtkdakckjafomhaaGreatDoor
namespace Go.Proofs.YtkdakckjafomhaaGreatDoor
open Go.RowKit
theorem ahp: ∀d:Fin 16,(({data:= #[48,49,50,51,52,53,54,55,56,57,97,98,99,100,101,102,103,104,105,106,107,108,109,110,111,112,113,114,115,116,117,118,119,120,121,122]}:ByteArray).data.toList)[d.val]?=some (Num.nR d.val):=by decide+kernel
theorem ac9 (d:Nat) (h:d<16) (h':d<({data:= #[48,49,50,51,52,53,54,55,56,57,97,98,99,100,101,102,103,104,105,106,107,108,109,110,111,112,113,114,115,116,117,118,119,120,121,122]}:ByteArray).size):({data:= #[48,49,50,51,52,53,54,55,56,57,97,98,99,100,101,102,103,104,105,106,107,108,109,110,111,112,113,114,115,116,117,118,119,120,121,122]}:ByteArray)[d]'h'=Num.nR d:=by
 have h1:=ahp ⟨d,h⟩
 have h2:=Lib.data_getElem? ({data:= #[48,49,50,51,52,53,54,55,56,57,97,98,99,100,101,102,103,104,105,106,107,108,109,110,111,112,113,114,115,116,117,118,119,120,121,122]}:ByteArray) d h'
 exact ad4 (h2.symm.trans h1)
theorem Tv: ∀(j x:Nat),Num.hexN (j+1) x=Num.nR (x / 16 ^ j % 16) :: Num.hexN j x
 |0,x=>by simp[Num.hexN]
 |j+1,x=>by
  have h:=Tv j (x / 16);rw[Num.hexN,h,Num.hexN,ao8,afk,afV 16];rfl
def Tail (cs:Array Value) (x j:Nat):Prop:=cs.size=65/\ ∀t,t<j-> ∃c,(Num.hexN j x)[t]?=some c/\cs[65 - j+t]?=some (.int .u8 (c.toNat:Int))
theorem Tail.next {cs:Array Value} {x j:Nat} (h:Tail cs x j) (hj:j<65) {c:UInt8} (hc:Num.nR (x / 16 ^ j % 16)=c):Tail (cs.setIfInBounds (65 - j - 1) (.int .u8 (c.toNat:Int))) x (j+1):=by
 refine⟨by simp[h.1],fun t ht=> ?_⟩
 rw[Tv,hc];cases t with
 |zero=>
  refine⟨c,rfl, ?_⟩
  rw[show 65 -(j+1)+0=65 - j - 1 by omega,Array.getElem?_setIfInBounds_self_of_lt (by rw[h.1];omega)]
 |succ t=>
  obtain⟨d,h1,h2⟩:=h.2 t (by omega)
  refine⟨d,h1, ?_⟩
  rw[Array.getElem?_setIfInBounds_ne (by omega),show 65 -(j+1)+(t+1)=65 - j+t by omega]
  exact h2
theorem ahq (x:Nat) (w:World) (hL:Laid w) (h0:4503599627370496<=x) (h1:x<9007199254740992):
  Calls Tryz.prog 198 #[.slice none 0 0,.int .u64 x,.int .i64 16,.bool false,.bool false] w fun e w'=>e=.returned (.tuple #[.slice none 0 0,.string ⟨(Num.hexN 14 x).toArray⟩])/\Below w.heap.size w w':=by
 have HT:=ah (fun(W:World) (hb:Below w.heap.size w W)=>ahk W (hL.below hb))
 have HP:=ah ahl;have hx':(x:Int)<=18446744073709551615:=by omega
 clear hL;go_enter Tryz.func198,Tryz.ntmps198;go_wp2_with fail;refine(HP.out _).mono ?_
 rintro e w' ⟨rfl,rfl⟩;go_wp2_with fail
 refine(HT.out _ ((Below.refl _ _).alloc (ac4 _) _)).mono ?_;rintro e w' ⟨rfl,rfl⟩
 obtain⟨cs0,hcs0⟩:=aj Tryz.zeroCells285;have hc0:cs0.size=65:=by rw[<-hcs0];kernel_rfl
 have hb0:au (w.alloc (.cells cs0 285)) w.heap.size 285 cs0:=au.new _ _ _
 have IV:Below w.heap.size w (w.alloc (.cells cs0 285)):=(Below.refl _ _).alloc (ac4 _) _
 rw[hcs0]
 generalize w.alloc (.cells cs0 285)=W0 at*
 have qJ:=ah hc0;have HB0:=ah hb0;have vI:=ah IV;clear hcs0 hc0 hb0 IV;go_wp2
 go_loopg [1,13] 13 (fun g u i wr=> ∃(j:Nat) (cs:Array Value),j+g=13/\u=.int .u64 (x / 16 ^ j:Nat)/\i=.int .i64 (65 -(j:Int))/\au wr w.heap.size 285 cs/\Tail cs x j/\Below w.heap.size w wr)
 case atStart=>exact⟨0,cs0,by omega,by simp,by simp,HB0.out,⟨qJ.out,fun t ht=>by omega⟩,vI.out⟩
 obtain⟨j,cs,hj,rfl,rfl,hb,htl,hbl⟩:=hrel;have HJ:=ah hj;have HB:=ah hb;have oU:=ah htl
 have ada:=ah hbl;clear hj hb htl hbl;cases gk with
 |zero=>
  obtain rfl:j=13:=by have:=HJ.out;omega
  obtain⟨u,hu⟩:=aj (x / 16 ^ 13)
  have hu1:u=1:=by
   have e:(16:Nat) ^ 13=4503599627370496:=by decide
   rw[e]at hu;omega
  subst hu1;rw[hu];have htn:=oU.next (c:=49) (by omega) (by rw[hu];decide)
  obtain⟨v0,hv0⟩: ∃v,cs[51]?=some v:=⟨_,afO (by rw[oU.out.1];omega)⟩
  have hcell:=(HB.cell 51).trans hv0;have hfz:=HB.frozen 51
  have hbn:=HB.bP 51 (.int .u8 ((49:UInt8).toNat:Int))
  have hconv:=fun(q:Value)=>run_convert_bytes_back (P:=Tryz.prog) (wr.setCell ⟨w.heap.size,51,none⟩ (.int .u8 49)) 124 9 5 ⟨w.heap.size,51,none⟩ 14 (Num.hexN 14 x) Tryz.underlying124 Tryz.underlying5 Tryz.underlying9 (fun k hk=>by
   rw[Num.uQ]at hk;obtain⟨d,h1,h2⟩:=htn.2 k hk;have h3:=hbn.cell (51+k)
   have e:(⟨w.heap.size,51,none⟩:Addr).add k=⟨w.heap.size,51+k,none⟩:=by unfold Addr.add;split<;>simp_all
   rw[e];refine h3.trans ?_;rw[show 51+k=65 -(13+1)+k by omega]
   obtain⟨hlt,he⟩:=adw.1 h1;refine h2.trans ?_
   rw[<-he])
  have hcv:=hconv undef;rw[Num.uQ]at hcv
  have HFB:=ah (ada.out.setCell (p:=⟨w.heap.size,51,none⟩) (ac4 _) (.int .u8 49))
  have hdig:=ac9 1 (by decide)
  rw[show Num.nR 1=49 from by decide]at hdig
  clear hu hv0 htn hbn hconv;go_wp2
  go_ret2
  exact⟨rfl,HFB.out⟩
 |succ g=>
  have apk:j<=12:=by have:=HJ.out;omega
  obtain⟨u,hu⟩:=aj (x / 16 ^ j)
  have apl:16<=u:=by
   rw[<-hu,Nat.le_div_iff_mul_le (ano (by decide))]
   have:16 ^(j+1)<=16 ^ 13:=afa (by decide) (by omega)
   have e:(16:Nat) ^ 13=4503599627370496:=by decide
   rw[afk]at this;omega
  have Vl:u<=x:=by rw[<-hu];exact aql _ _
  have hub:(u:Int)<=9007199254740992:=by omega
  have amO:(16:Int)<=u:=by omega
  have hd:decide ((16:Int)<=u)=true:=adb amO
  have hand:bits BinOp.and IntKind.u64 (u:Int) 15=((u % 16:Nat):Int):=by
   rw[show(15:Int)=((15:Nat):Int) from rfl,bits_and_u64_nat u 15 (by omega) (by omega),show(15:Nat)=2 ^ 4 - 1 from rfl,an3]
  rw[hu];have hjb:(j:Int)<=12:=by omega
  obtain⟨d,hdd⟩:=aj (u % 16);have amP:d<16:=by omega
  rw[hdd]at hand;have HU:=ah hu;have pY:=ah hdd
  obtain⟨v0,hv0⟩: ∃v,cs[65 - j - 1]?=some v:=⟨_,afO (by rw[oU.out.1];omega)⟩
  have hcell:=(HB.cell (65 - j - 1)).trans hv0;have hfz:=HB.frozen (65 - j - 1)
  obtain⟨c,hc⟩:=aj (Num.nR d);have hdig:=ac9 d amP;rw[hc]at hdig
  have htn:=oU.next (c:=c) (by omega) (by rw[hu,hdd];exact hc)
  have aI:=ah htn;clear hu hdd hv0 hc htn;go_wp2
  go_roundg g
  case measure=>omega
  refine⟨j+1,_,by have:=HJ.out;omega,int_eq' ?_,int_eq' (by omega),HB.bP (65 - j - 1) _,aI.out,ada.out.setCell (p:=⟨w.heap.size,65 - j - 1,none⟩) (ac4 _) _⟩
  rw[afk,<-ao8,HU.out];rfl
theorem OO (x:Nat) (w:World) (hL:Laid w) (h0:4503599627370496<=x) (h1:x<9007199254740992):
  Calls Tryz.prog 202 #[.int .u64 x,.int .i64 16] w fun e w'=>e=.returned (.string ⟨(Num.hexN 14 x).toArray⟩)/\Below w.heap.size w w':=by
 have hin:Calls Tryz.prog 234 #[.int .u64 x,.int .i64 16] w fun e w'=>e=.returned (.string ⟨(Num.hexN 14 x).toArray⟩)/\Below w.heap.size w w':=by
  have H:=ah (ahq x w hL h0 h1);clear hL;go_enter Tryz.func234,Tryz.ntmps234
  go_wp2_with fail;refine H.out.mono ?_;rintro e w1 ⟨rfl,hb⟩;have HB:=ah hb;clear hb
  go_wp2;go_ret;exact⟨rfl,HB.out⟩
 have H:=ah hin;clear hL hin;go_enter Tryz.func202,Tryz.ntmps202;go_wp2_with fail
 refine H.out.mono ?_;rintro e w1 ⟨rfl,hb⟩;have HB:=ah hb;clear hb;go_wp2;go_ret
 exact⟨rfl,HB.out⟩
end Go.Proofs.YtkdakckjafomhaaGreatDoor
