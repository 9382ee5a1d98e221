/- Lemmas. -/
import Derived.Test.YtdijgcnlbfgkdaaGreatDoorUP03
import Derived.Deep.QuietTactic
import Derived.BigQuiet
import Derived.Deep.AppendLies
import Derived.Deep.Draws
import Derived.Maps.AppendAt
import Derived.RegionTactic
import Derived.Laws.RangeAny
import Derived.Lib.IndexAny
import Derived.Lib.OthersKept
import Derived.StillTailTactics
import Derived.Deep.RegionWith
import Derived.Deep.RegionHeld3
set_option maxHeartbeats 64000000
set_option maxRecDepth 1000000
set_option linter.all false
namespace Go.Proofs.YtdijgcnlbfgkdaaGreatDoor
open Go.RowKit Go.Proofs.Tryz
def rG (b:Bool):(some undef=some (Value.bool b))=False:=by simp[undef]
def Reads (w:World) (B size:Nat) (A:Option Addr) (n:Nat) (xs:List Value):Prop:=
 xs.length=n*size/\(0<n-> ∃b off,A=some ⟨b,off,none⟩/\b<B/\ ∀j u,xs[j]?=some u->w.cell? ⟨b,off+j,none⟩=some u)
section
variable {w w':World} {B B' size n:Nat} {A:Option Addr} {xs:List Value}
def Reads.none_:Reads w B size A 0 []:=⟨by simp,fun h=>absurd h (by omega)⟩
def Reads.at_ {k:Nat} (h:Reads w B 1 A n xs) (hk:k<n): ∃b off u,A=some ⟨b,off,none⟩/\b<B/\xs[k]?=some u/\w.cell? ⟨b,off+k,none⟩=some u:=by
 obtain⟨b,off,e,hb,hc⟩:=h.2 (by omega)
 have hl:k<xs.length:=by have:=h.1;omega
 exact⟨b,off,xs[k],e,hb,aen hl,hc k _ (aen hl)⟩
def Reads.keep (h:Reads w B size A n xs) (hk: ∀p:Addr,p.block<B->w'.cell? p=w.cell? p):Reads w' B size A n xs:=
 ⟨h.1,fun hn=>by
  obtain⟨b,off,e,hb,hc⟩:=h.2 hn
  exact⟨b,off,e,hb,fun j u hu=>(hk _ hb).trans (hc j u hu)⟩⟩
def Reads.more (h:Reads w B size A n xs) (hB:B<=B'):Reads w B' size A n xs:=
 ⟨h.1,fun hn=>by
  obtain⟨b,off,e,hb,hc⟩:=h.2 hn
  exact⟨b,off,e,by omega,hc⟩⟩
def Reads.below (h:Reads w B size A n xs) (hb:Below B w w'):Reads w' B size A n xs:=h.keep fun _ hp=>hb.cell hp
def Reads.dZ {base:Nat} {e:TypeId} {c:Nat} (h:w.ownsRow base e size (.slice A n c) n xs):Reads w w.heap.size size A n xs:=by
 refine⟨h.1,fun hn=> ?_⟩
 obtain⟨g,cap,hv,_,hlt⟩:=h.form hn;have hA:A=some ⟨g,0,none⟩:=by injection hv
 subst hA;refine⟨g,0,rfl,hlt,fun j u hu=> ?_⟩
 have:=h.cells (g:=g) rfl j u hu;have e:(⟨g,0,none⟩:Addr).add j=⟨g,0+j,none⟩:=by unfold Addr.add;split<;>simp_all
 rwa [e]at this
end
def ak (w:World) (g:Nat) (t:TypeId) (cs:Array Value):Prop:=w.heap[g]?=some (.cells cs t (0,0))
section
variable {w w':World} {g:Nat} {t:TypeId} {cs:Array Value}
def ak.lt (h:ak w g t cs):g<w.heap.size:=by
 rcases ahi g w.heap.size with hlt|hge
 ·exact hlt
 unfold ak at h;rw[apC hge]at h;cases h
def ak.cell (h:ak w g t cs) (i:Nat):w.cell? ⟨g,i,none⟩=cs[i]?:=cell_of_row w g i cs t (0,0) h
def ak.frozen (h:ak w g t cs) (i:Nat):w.frozen? ⟨g,i,none⟩=false:=by
 unfold ak at h;simp[World.frozen?,h]
def ak.new (w:World) (t:TypeId) (cs:Array Value):ak (w.alloc (.cells cs t)) w.heap.size t cs:=atC w _
def ak.alloc (h:ak w g t cs) (o:Obj):ak (w.alloc o) g t cs:=(asU w o g h.lt).trans h
def ak.aG (h:ak w g t cs) (i:Nat) (u:Value):ak (w.setCell ⟨g,i,none⟩ u) g t (cs.setIfInBounds i u):=by
 unfold ak at h⊢;simp[World.setCell,apW,h]
def ak.far (h:ak w g t cs) {p:Addr} (hp:g≠p.block) (u:Value):ak (w.setCell p u) g t cs:=(asP w p u g hp).trans h
def ak.below {B:Nat} (h:ak w g t cs) (hb:Below B w w') (hg:g<B):ak w' g t cs:=(hb.block g hg).trans h
def ak.grown {row:Option Nat} (h:ak w g t cs) (hb:w.grownBy w' row) (hg:some g≠row):ak w' g t cs:=(hb.block g h.lt hg).trans h
def ak.ne_ {g':Nat} {t':TypeId} {cs':Array Value} (h:ak w g t cs) (h':ak w g' t' cs') (hne:t≠t'):g≠g':=by
 rintro rfl;unfold ak at h h';rw[h]at h'
 injection h' with h'
 injection h' with _ ht
 exact hne ht
def FD {base:Nat} {e:TypeId} {size n:Nat} {v:Value} {xs:List Value} (h:w.ownsRow base e size v n xs) (hg:ak w g t cs) (hne:e≠t):v.ownBlock≠some g:=by
 rcases h.2 with⟨rfl,_⟩|⟨g',cap,cur,rfl,_,hh,_⟩
 ·simp[Value.ownBlock]
 intro he;have:g'=g:=by simpa[Value.ownBlock] using he
 subst this;exact ak.ne_ (t:=e) hh hg hne rfl
end
def xY {P:Program} {f:FuncId} {args:Array Value} {w:World} {a n:Nat} {v:Value}
  (h:Calls P f args (w.drewN (a+n)) fun e w'=>e=.returned v/\w'=w.drewN (a+n)):
  Calls P f args (w.drewN (a+n)) fun e w''=>e=.returned v/\ ∃m,w''=w.drewN (a+m):=
 h.mono fun _ _ ⟨he,hm⟩=>⟨he,n,hm⟩
def aH {w:World} {base e size n:Nat} {v:Value} {xs:List Value} (h:w.ownsRow base e size v n xs): ∃A c,v=.slice A n c:=by
 rcases h.2 with⟨rfl,rfl⟩|⟨g,cap,cur,rfl,_⟩
 ·exact⟨_,_,rfl⟩
 exact⟨_,_,rfl⟩
def mW {w:World} {base e size n:Nat} {v:Value} {xs:List Value} (h:w.ownsRow base e size v n xs): ∀i,v.ownBlock=some i->base<=i/\ ∃c,w.heap[i]?=some (.cells c e (0,0)):=fun i he=>by
 refine⟨(h.lt i he).1, ?_⟩
 rcases h.2 with⟨hv,_⟩|⟨g,cap,cur,hv,_,hh,_⟩
 ·rw[hv]at he;simp[Value.ownBlock]at he
 rw[hv]at he;simp[Value.ownBlock]at he;subst he;exact⟨_,hh⟩
def eu {w w':World} {base e size n:Nat} {row:Option Nat} {v:Value} {xs:List Value} (h:w.ownsRow base e size v n xs) (hg:w.grownBy w' row) (hty: ∀g c t fz,row=some g->w.heap[g]?=some (.cells c t fz)->t≠e):w'.ownsRow base e size v n xs:=by
 refine h.kept hg ?_;cases hv:v.ownBlock with
 |none=>exact .inl rfl
 |some i=>
  refine .inr (fun hr=> ?_)
  obtain⟨_,c,hc⟩:=mW h i hv;exact hty i c e _ hr.symm hc rfl
def own_base {w:World} {base base' e size n:Nat} {v:Value} {xs:List Value} (h:w.ownsRow base e size v n xs) (hb:base'<=base):w.ownsRow base' e size v n xs:=by
 refine⟨h.1, ?_⟩
 rcases h.2 with hn|⟨g,cap,cur,rfl,hg,rest⟩
 ·exact .inl hn
 exact .inr ⟨g,cap,cur,rfl,by omega,rest⟩
def below_drewN {B:Nat} {a w:World} (h:Below B a w) (n:Nat):Below B a (w.drewN n):=⟨h.os,h.tape,h.output,h.size,h.block⟩
def iw (w:World) (row:Option Nat):w.grownBy w row:=World.grownBy.refl w _
def aS {a b c:World} {row:Option Nat} (h:a.grownBy b row) (k:b.grownBy c row):a.grownBy c row:=
 ⟨k.os.trans h.os,k.tape.trans h.tape,k.output.trans h.output,aep h.size k.size,fun i hi hne=>(k.block i (afn hi h.size) hne).trans (h.block i hi hne)⟩
def wH {a w:World} {row:Option Nat} (h:a.grownBy w row) (n:Nat):a.grownBy (w.drewN n) row:=⟨h.os,h.tape,h.output,h.size,h.block⟩
def aaH {a w:World} {row:Option Nat} (h:a.grownBy w row):a.grownBy w.drew row:=⟨h.os,h.tape,h.output,h.size,h.block⟩
def Bj {a w:World} {row:Option Nat} (h:a.grownBy w row) (o:Obj):a.grownBy (w.alloc o) row:=
 ⟨h.os,h.tape,h.output,aep h.size (by simp),fun i hi hne=>(asU w o i (afn hi h.size)).trans (h.block i hi hne)⟩
def mX {a w:World} {g:Nat} (h:a.grownBy w (some g)) {p:Addr} (hp:p.block=g\/a.heap.size<=p.block) (u:Value):a.grownBy (w.setCell p u) (some g):=
 ⟨h.os,h.tape,h.output,by simpa[World.setCell] using h.size,fun i hi hne=>(asP w p u i (by
  rintro rfl
  rcases hp with hp|hp
  ·exact hne (by rw[hp])
  omega)).trans (h.block i hi hne)⟩
def bV {a w:World} (h:Below a.heap.size a w) (row:Option Nat):a.grownBy w row:=⟨h.os,h.tape,h.output,h.size,fun i hi _=>h.block i hi⟩
def vC {a m w:World} {g:Nat} {row:Option Nat} (h:a.grownBy m (some g)) (k:m.grownBy w row) (hr: ∀i,row=some i->a.heap.size<=i):a.grownBy w (some g):=
 ⟨k.os.trans h.os,k.tape.trans h.tape,k.output.trans h.output,aep h.size k.size,fun i hi hne=>(k.block i (afn hi h.size) (fun e=>by have:=hr i e.symm;omega)).trans (h.block i hi hne)⟩
def aaI {a b:Value} (h:a=b):Ending.returned a=Ending.returned b:=by rw[h]
def int_eq {k:IntKind} {a b:Int} (h:a=b):Value.int k a=Value.int k b:=by rw[h]
def get_at (s:ByteArray) (i:Nat) (h:i<s.size):s.get! i=s[i]'h:=by
 simp[ByteArray.get!,aob,h];rfl
def Dz (s:ByteArray) (i:Nat) (h:i<s.size):s.data.toList[i]?=some (s[i]'h):=ar8 s i h
def decode_high (s:ByteArray) (i:Nat) (h:i<s.size) (hc:128<=(s[i]'h).toNat):
  128<=(Utf8.decode s i).1/\(Utf8.decode s i).1<=1114111/\Utf8.valid (((Utf8.decode s i).1:Nat):Int)=true/\1<=(Utf8.decode s i).2/\i+(Utf8.decode s i).2<=s.size/\
  ∀j,i<=j->j<i+(Utf8.decode s i).2->128<=(s.get! j).toNat:=by
 have e0:128<=(s.get! (i+0)).toNat:=by rw[agw,get_at s i h];exact hc
 have hv:Utf8.valid ((65533:Nat):Int)=true:=by decide
 have e00:(s.get! (i+0)).toNat=(s.get! i).toNat:=rfl
 have one: ∀j,i<=j->j<i+1->128<=(s.get! j).toNat:=fun j h1 h2=>by
  obtain rfl:j=i:=by omega
  simpa using e0
 unfold Utf8.decode;simp only[Utf8.runeError];rw[aer (by omega)]
 split
 ·rename_i h2
  simp only[afx,afc,aeU]at h2;obtain⟨a1,a2,a3⟩:=h2
  split
  ·refine⟨by simp;omega,by simp;omega, ?_,by simp,by simp;omega,fun j h1 h2=> ?_⟩
   ·simp[Utf8.valid];omega
   have:j=i+0\/j=i+1:=by simp at h2;omega
   rcases this with rfl|rfl<;>omega
  exact⟨by simp,by simp,hv,by simp,by simp;omega,one⟩
 split
 ·rename_i h2
  simp only[afx,afc,aeU]at h2;obtain⟨⟨a1,a2,a3⟩,a4,a5⟩:=h2
  split
  ·rename_i hv2
   simp only[ge_iff_le,afx,aeU]at hv2;refine⟨by simp;omega,by simp;omega,hv2.2,by simp,by simp;omega,fun j h1 h2=> ?_⟩
   have:j=i+0\/j=i+1\/j=i+2:=by simp at h2;omega
   rcases this with rfl|rfl|rfl<;>omega
  exact⟨by simp,by simp,hv,by simp,by simp;omega,one⟩
 split
 ·rename_i h2
  simp only[afx,afc,aeU]at h2;obtain⟨⟨⟨a1,a2,a3⟩,a4,a5⟩,a6,a7⟩:=h2
  split
  ·rename_i hv2
   simp only[ge_iff_le,afx,aeU]at hv2
   have hm:(s.get! (i+0)).toNat % 8*262144+(s.get! (i+1)).toNat % 64*4096+(s.get! (i+2)).toNat % 64*64+(s.get! (i+3)).toNat % 64<=1114111:=by
    have:=hv2.2;simp only[Utf8.valid,anO,afx,aeU]at this;omega
   refine⟨by simp;omega,by simpa using hm,hv2.2,by simp,by simp;omega,fun j h1 h2=> ?_⟩
   have:j=i+0\/j=i+1\/j=i+2\/j=i+3:=by simp at h2;omega
   rcases this with rfl|rfl|rfl|rfl<;>omega
  exact⟨by simp,by simp,hv,by simp,by simp;omega,one⟩
 exact⟨by simp,by simp,hv,by simp,by simp;omega,one⟩
def ail (r:Nat) (h:128<=r):2<=(Utf8.encode (r:Int)).size/\(Utf8.encode (r:Int)).size<=4/\128<=((Utf8.encode (r:Int)).get! ((Utf8.encode (r:Int)).size - 1)).toNat:=by
 unfold Utf8.encode;simp only[Utf8.runeError]
 split<;>(try rename_i hv)
 ·simp only[Int.toNat_natCast]
  rw[aer (by omega)]
  split
  ·exact⟨(by show 2<=2;omega),(by show 2<=4;omega),(by show 128<=(UInt8.ofNat (128+r % 64)).toNat;simp;omega)⟩
  split
  ·exact⟨(by show 2<=3;omega),(by show 3<=4;omega),(by show 128<=(UInt8.ofNat (128+r % 64)).toNat;simp;omega)⟩
  exact⟨(by show 2<=4;omega),(by show 4<=4;omega),(by show 128<=(UInt8.ofNat (128+r % 64)).toNat;simp;omega)⟩
 decide
end Go.Proofs.YtdijgcnlbfgkdaaGreatDoor
namespace Go.Proofs.YtdijgcnlbfgkdaaGreatDoor
open Go.RowKit Go.Proofs.Tryz
def Tail (cs:Array Value) (x j:Nat):Prop:=cs.size=65/\ ∀t,t<j-> ∃c,(Num.hexN j x)[t]?=some c/\cs[65 - j+t]?=some (.int .u8 (c.toNat:Int))
def ain (b:Nat) (hb:b<18446744073709551616):bits BinOp.and IntKind.u64 ((b:Int) / 4503599627370496) 2047=((b % 9223372036854775808 / 4503599627370496:Nat):Int):=by
 rw[show((b:Int) / 4503599627370496)=((b / 4503599627370496:Nat):Int) by omega,show(2047:Int)=((2047:Nat):Int) from rfl,bits_and_u64_nat _ _ (by omega) (by omega),show(2047:Nat)=2 ^ 11 - 1 from rfl,Nat.and_two_pow_sub_one_eq_mod]
 omega
def or_one (f:Nat) (hf:f<4503599627370496):bits BinOp.or IntKind.u64 (f:Int) 4503599627370496=((f+4503599627370496:Nat):Int):=by
 rw[show(4503599627370496:Int)=((4503599627370496:Nat):Int) from rfl,atc f _ (by omega) (by omega)]
 congr 1
 have h:=aor (i:=52) (b:=f) hf 1;rw[Nat.or_comm];rw[show(4503599627370496:Nat)=2 ^ 52*1 from rfl,<-h]
 omega
def aio {f:Nat} (h:f≠0):Num.oV f=46 :: Lib.trimRightS (Num.hexN 13 f) [48]:=by unfold Num.oV;rw[aer h]
def aip (f:Nat):(Lib.trimRightS (Num.hexN 13 f) [48]).length<=13:=by
 obtain⟨j,h1,_⟩:=Num.KC _ (Num.hexN 13 f) rfl;have h2:=Num.KA 13 f;rw[h1,aeo]at h2;omega
def aaJ {n:Int} (h0: -2000<=n) (h1:n<=2000):(Lib.itoa n).length<=5:=by
 unfold Lib.itoa
 split
 ·rw[ae7,Num.Bg]
  have:=Dy 3 n.natAbs (by omega)
  omega
 rw[Num.Bg];have:=Dy 3 n.toNat (by omega)
 omega
def aiq: ∀c:Fin 256,Lib.indexByte [48,49,50,51,52,53,54,55,56,57,97,98,99,100,101,102] (UInt8.ofNat c.val)=match Num.fC (UInt8.ofNat c.val) with|some d=>(d:Int)|none=> -1:=by decide+kernel
def air (c:UInt8):Lib.indexByte [48,49,50,51,52,53,54,55,56,57,97,98,99,100,101,102] c=match Num.fC c with|some d=>(d:Int)|none=> -1:=by
 have:=aiq ⟨c.toNat,an0 c⟩
 simpa using this
def ais (n d:Nat) (hn:n<1152921504606846976) (hd:d<16):bits BinOp.or IntKind.u64 ((n:Int)*16) (d:Int)=((n*16+d:Nat):Int):=by
 rw[show(n:Int)*16=((n*16:Nat):Int) by omega,atc _ _ (by omega) (by omega)]
 congr 1
 have h:=aor (i:=4) (b:=d) hd n;rw[ahe,show(16:Nat)=2 ^ 4 from rfl,<-h]
def PL (c:UInt8) (h:List UInt8):Num.mV (c :: h)=if c≠46\/h=[]\/13<h.length\/h.getLast?=some 48 then none else(Num.hexVal h 0).map (· *16 ^(13 - h.length)):=rfl
def ait (r:Option Nat) (w:World) (e:Ending) (w':World):Prop:=e=.returned (.tuple #[.int .u64 (r.getD 0:Nat),.bool r.isSome])/\w=w'
def aiu {t:List UInt8} {k n:Nat} {c:UInt8} (h:Num.hexVal (t.take k) 0=some n) (hc:t[k]?=some c):Num.hexVal (t.take (k+1)) 0=(Num.fC c).map (n*16+ ·):=by
 obtain⟨hk,e⟩:=aeK.1 hc;rw[af0 hk,Num.Iz,h,e];simp only[aoH,Num.hexVal];cases Num.fC c<;>rfl
def Uh: ∀(t:List UInt8) (a n:Nat),Num.hexVal t a=some n->n<(a+1)*16 ^ t.length
 |[],a,n,h=>by simp[Num.hexVal]at h;subst h;simp
 |c :: r,a,n,h=>by
  simp only[Num.hexVal]at h;cases hc:Num.fC c with
  |none=>rw[hc]at h;cases h
  |some d=>
   rw[hc]at h;have h1:=Uh r _ n h;have hd:=Num.zM hc;have h2:(a*16+d+1)*16 ^ r.length<=((a+1)*16)*16 ^ r.length:=ahg _ (by omega)
   rw[ae7,af2,ahe (16 ^ r.length) 16,<-ahm];exact afn h1 h2
def aaK: ∀(t:List UInt8) (k a:Nat) (c:UInt8),t[k]?=some c->Num.fC c=none->Num.hexVal t a=none
 |[],k,a,c,h,_=>by simp at h
 |x :: r,0,a,c,h,hn=>by
  simp at h;subst h;simp only[Num.hexVal];rw[hn]
 |x :: r,k+1,a,c,h,hn=>by
  simp only[aeQ]at h;simp only[Num.hexVal];cases Num.fC x with
  |none=>rfl
  |some d=>exact aaK r k _ c h hn
def aaL (s:ByteArray) (w:World) (hs:s.size<=1073741824):
  Calls prog 225 #[.string s] w (ait (Num.mV s.data.toList) w):=by
 obtain⟨l,hl⟩:=aj s.data.toList;rw[hl];cases l with
 |nil=>
  have h0:s.size=0:=by rw[aof,hl];rfl
  have hsn:s.toList.isEmpty=true:=by rw[aod,hl];rfl
  have hse:(s.toList ==[])=true:=by rw[aod,hl];rfl
  clear hl h0;go_enter func225,ntmps225;go_wp2
  go_ret2
  exact⟨rfl,rfl⟩
 |cons c t=>
  have hsz:s.size=t.length+1:=by rw[aof,hl];rfl
  have hpos:0<s.size:=by omega
  have hp1:(1:Int)<=s.size:=by omega
  have hp0:(0:Int)<s.size:=by omega
  have hsn:s.toList.isEmpty=false:=by rw[aod,hl];rfl
  have hse:(s.toList ==[])=false:=by rw[aod,hl];rfl
  have h0:s[0]'hpos=c:=by
   have h1:=ar8 s 0 hpos;rw[hl]at h1
   simpa using h1.symm
  obtain⟨z,hz⟩:=aj (s.extract 1 s.size)
  have hzl:z.data.toList=t:=by
   rw[<-hz,aso,hl];simp;exact aeG (by omega)
  have hzs:z.size=t.length:=by rw[aof,hzl]
  have hzb:z.size<=1073741824:=by omega
  have yB:=ah hzl;have qJ:=ah hzs;clear hl hsz;by_cases h46:c=46
  ·have t1:(((s[0]'hpos).toNat:Int) !=46)=false:=by rw[h0,h46];rfl
   cases t with
   |nil=>
    have hzn:z.toList.isEmpty=true:=by rw[aod,hzl];rfl
    have hze:(z.toList ==[])=true:=by rw[aod,hzl];rfl
    have hr:Num.mV [c]=none:=by unfold Num.mV;simp
    rw[hr];clear h0 hzl hzs hr h46;go_enter func225,ntmps225;go_wp2
    go_ret2
    exact⟨rfl,rfl⟩
   |cons x y=>
    have hzn:z.toList.isEmpty=false:=by rw[aod,hzl];rfl
    have hze:(z.toList ==[])=false:=by rw[aod,hzl];rfl
    by_cases h13:13<(x :: y).length
    ·have hr:Num.mV (c :: x :: y)=none:=by
      rw[PL,aeu (.inr (.inr (.inl h13)))]
     rw[hr];have t2:(13:Int)<z.size:=by omega
     clear h0 hzl hzs hr h46 h13;go_enter func225,ntmps225;go_wp2
     go_ret2
     exact⟨rfl,rfl⟩
    obtain⟨t,ht⟩:=aj (x :: y);rw[ht]at hzl hzs h13 yB qJ⊢;have htn:t≠ []:=by rw[<-ht];simp
    have hzp:0<z.size:=by rw[hzs,<-ht];simp
    have aqH:(1:Int)<=z.size:=by omega
    have t2:(z.size:Int)<=13:=by omega
    have hzm:z.size - 1<z.size:=by omega
    have hlast:t.getLast?=some (z[z.size - 1]'hzm):=by
     have h1:=ar8 z (z.size - 1) hzm;rw[hzl]at h1;rw[aqz,<-hzs,h1]
    have ez:((z.size:Int) - 1).toNat=z.size - 1:=by omega
    by_cases h48:(z[z.size - 1]'hzm)=48
    ·have hr:Num.mV (c :: t)=none:=by
      rw[PL,aeu (.inr (.inr (.inr (by rw[hlast,h48]))))]
     rw[hr];have t3:(((z[z.size - 1]'hzm).toNat:Int) == 48)=true:=by rw[h48];rfl
     have EZ:=ah ez;clear h0 hzl hzs hr h46 h13 hlast h48 ht htn ez;go_enter func225,ntmps225;go_wp2
     go_ret2
     exact⟨rfl,rfl⟩
    have t3:(((z[z.size - 1]'hzm).toNat:Int) == 48)=false:=by
     rw[aek];intro e;exact h48 (afC.1 (by show(z[z.size - 1]'hzm).toNat=48;omega))
    have hr:Num.mV (c :: t)=(Num.hexVal t 0).map (· *16 ^(13 - t.length)):=by
     rw[PL,aer];rintro(h|h|h|h)
     ·exact h h46
     ·exact htn h
     ·exact h13 h
     rw[hlast]at h;exact h48 (aeM h)
    obtain⟨R,hR⟩:=aj (Num.mV (c :: t));rw[hR];rw[hR]at hr;have HR:=ah hr;have hzg: ∀(k:Nat) (h:k<z.size),t[k]?=some (z[k]'h):=fun k h=>by rw[<-hzl];exact ar8 z k h
    have HZG:=ah hzg;clear h0 hzl hzs hr h46 h13 hlast h48 ht htn ez hR hzg;go_enter func225,ntmps225;go_wp2;clear t3
    go_loopg [5,34] z.size (fun g a i wr=> ∃(k n:Nat),k+g=z.size/\i=.int .i64 k/\a=.int .u64 n/\Num.hexVal (t.take k) 0=some n/\w=wr)
    case atStart=>exact⟨0,0,by omega,rfl,rfl,rfl,rfl⟩
    obtain⟨k,n,hk,rfl,rfl,hv,rfl⟩:=hrel;have HK:=ah hk;have HV:=ah hv;have hnl:=Uh _ _ _ hv;have htl:(t.take k).length<=k:=ao4 _ _;clear hk hv;cases gk with
    |zero=>
     have hkz:k=z.size:=by have:=HK.out;omega
     have hfin:Num.hexVal t 0=some n:=by
      have:=HV.out
      rwa [aeG (by rw[hkz,qJ.out];exact aej _)]at this
     have hr:=HR.out;rw[hfin]at hr;have htz:t.length=z.size:=qJ.symm;rw[afX,htz]at hr;obtain⟨m,hm⟩:=aj z.size
     have hnm:n<16 ^ m:=by
      have h1:=Uh _ _ _ hfin;rw[htz,hm]at h1;omega
     have hpw:16 ^ m*16 ^(13 - m)=4503599627370496:=by
      rw[<-aoN,show m+(13 - m)=13 by omega]
     have hsh:IntKind.u64.wrap ((n:Int)*2 ^(52 - 4*m))=((n*16 ^(13 - m):Nat):Int):=by
      have e1:(2:Nat) ^(52 - 4*m)=16 ^(13 - m):=by rw[show 52 - 4*m=4*(13 - m) by omega,Nat.pow_mul]
      have e2:(n:Int)*2 ^(52 - 4*m)=((n*16 ^(13 - m):Nat):Int):=by rw[<-e1];simp
      have h3:n*16 ^(13 - m)<16 ^ m*16 ^(13 - m):=anY hnm (aoj (by decide))
      rw[hpw]at h3;rw[e2,asZ];omega
     rw[hm]at hr;have HR2:=ah hr;have hkd:decide (k<z.size)=false:=dF (by omega)
     have em:(52 - 4*(z.size:Int)).toNat=52 - 4*m:=by omega
     have e0:(0:Int)<=52 - 4*(z.size:Int):=by omega
     have HM:=ah hm;clear hkz hfin hr htz hm hnm hpw;go_wp2
     go_ret2
     refine⟨?_,rfl⟩;rw[HR2.out];have e9:((n*16 ^(13 - m):Nat):Int)=(n:Int)*16 ^(13 - m):=by simp
     show Ending.returned (.tuple #[.int .u64 ((n:Int)*16 ^(13 - m)),.bool true])=.returned (.tuple #[.int .u64 ((n*16 ^(13 - m):Nat):Int),.bool true])
     rw[e9]
    |succ g=>
     have hlt:k<z.size:=by have:=HK.out;omega
     have hlt':(k:Int)<z.size:=by omega
     obtain⟨x,hx⟩:=aj (z[k]'hlt);have hget:=HZG.out k hlt;rw[hx]at hget;have hix:=air x;have hci:=Tryz.strings_IndexByte ⟨#[48,49,50,51,52,53,54,55,56,57,97,98,99,100,101,102]⟩ ((z[k]'hlt).toNat:Int) w;have Wq:((((z[k]'hlt).toNat:Int)).toNat.toUInt8)=x:=by rw[hx];simp
     rw[Wq]at hci;cases hv:Num.fC x with
     |none=>
      rw[hv]at hix;have Ls:Calls prog 228 #[.string ⟨#[48,49,50,51,52,53,54,55,56,57,97,98,99,100,101,102]⟩,.int .u8 ((z[k]'hlt).toNat:Int)] w fun e w'=>e=.returned (.int .i64 (-1))/\w=w':=hci.mono fun e w' ⟨h1,h2⟩=>⟨by rw[h1];exact afL (fun q=>Ending.returned (Value.int .i64 q)) hix,h2.symm⟩
      have Wu:=ah Ls;have hr:=HR.out;rw[aaK t k 0 x hget hv]at hr;rw[hr];clear hx hget hix hci Wq hv Ls hr hnl htl;go_wp2_with fail;refine iq8 Wu ?_;go_wp2
      go_ret2
      exact⟨rfl,rfl⟩
     |some d=>
      rw[hv]at hix;have hd:=Num.zM hv;have Ls:Calls prog 228 #[.string ⟨#[48,49,50,51,52,53,54,55,56,57,97,98,99,100,101,102]⟩,.int .u8 ((z[k]'hlt).toNat:Int)] w fun e w'=>e=.returned (.int .i64 d)/\w=w':=hci.mono fun e w' ⟨h1,h2⟩=>⟨by rw[h1];exact afL (fun q=>Ending.returned (Value.int .i64 q)) hix,h2.symm⟩
      have Wu:=ah Ls;have hnx:=aiu HV.out hget;rw[hv,afX]at hnx;have oC:=ah hnx;have anv:16 ^(t.take k).length<=16 ^ 12:=afT (by decide) (by omega)
      have e12:(16:Nat) ^ 12=281474976710656:=by decide
      have hnb:n<281474976710656:=by omega
      have hor:=ais n d (by omega) hd
      have hdi:(0:Int)<=d:=by omega
      have aqI:(d:Int)<=15:=by omega
      have hni:(n:Int)<=281474976710656:=by omega
      clear hx hget hix hci Wq hv Ls hnl htl hnx anv e12;go_wp2_with fail;refine iq8 Wu ?_;go_wp2
      go_roundg g
      case measure=>omega
      exact⟨k+1,_,by have:=HK.out;omega,by go_num,rfl,oC.out,rfl⟩
  have t1:(((s[0]'hpos).toNat:Int) !=46)=true:=by
   rw[h0,afd];intro e;exact h46 (afC.1 (by show c.toNat=46;omega))
  have hr:Num.mV (c :: t)=none:=by rw[PL,aeu (.inl h46)]
  rw[hr];clear h0 hzl hzs hr h46;go_enter func225,ntmps225;go_wp2
  go_ret2
  exact⟨rfl,rfl⟩
def qp (r:Option Int) (w:World) (e:Ending) (w':World):Prop:= ∃v,e=.returned (.tuple #[.int .i64 v,.bool r.isSome])/\(∀x,r=some x->v=x)/\Below w.heap.size w w'
def qp.none_ {r:Option Int} {w w':World} {v:Int} (h:r=none) (hb:Below w.heap.size w w'):qp r w (.returned (.tuple #[.int .i64 v,.bool false])) w':=by
 subst h;exact⟨v,rfl,(fun x hx=>by cases hx),hb⟩
def qp.some_ {r:Option Int} {w w':World} {v:Int} (h:r=some v) (hb:Below w.heap.size w w'):qp r w (.returned (.tuple #[.int .i64 v,.bool true])) w':=by
 subst h;exact⟨v,rfl,fun x hx=>aeM hx,hb⟩
def aaM (c:UInt8) (r:List UInt8):Num.sN (c :: r)=if r=[]\/4<r.length\/(c≠112/\c≠109)\/Num.isInt r=false\/r.head?=some 45\/(c=109/\r=[48]) then none else
  if Num.wG c r<=1023/\ -1074<=Num.wG c r then some (Num.wG c r) else none:=rfl
def o9 (b:Bool):(some undef=some (Value.bool b))=False:=by simp[undef]
def PN (x y:UInt8):((x.toNat:Int) ==(y.toNat:Int))=decide (x=y):=by
 by_cases h:x=y
 ·rw[aei h,h];simp
 rw[dF h,aek];intro e;exact h (afC.1 (by omega))
def aaN (s:ByteArray) (w:World) (hs:s.size<=1073741824):
  Calls prog 226 #[.string s] w (qp (Num.sN s.data.toList) w):=by
 obtain⟨l,hl⟩:=aj s.data.toList;have hsz:s.size=l.length:=by rw[aof,hl]
 have hsg: ∀(k:Nat) (h:k<s.size),l[k]?=some (s[k]'h):=fun k h=>by rw[<-hl];exact ar8 s k h
 obtain⟨R,hR⟩:=aj (Num.sN l);rw[hl,hR];by_cases h2:s.size<2
 ·have hr:R=none:=by
   rw[<-hR];cases l with
   |nil=>rfl
   |cons c r=>
    have:r=[]:=aeI (by simp at hsz;omega)
    rw[aaM,aeu (.inl this)]
  have HR:=ah hr;have t1:(s.size:Int)<2:=by omega
  have t1':decide ((s.size:Int)<2)=true:=aei t1;have hu:=o9;clear hr hR hsg hsz hl h2;go_enter func226,ntmps226;go_wp2
  go_ret2
  exact qp.none_ HR.out (aoa _ _)
 obtain⟨c,d,r',rfl⟩: ∃c d r',l=c :: d :: r':=by
  cases l with
  |nil=>rw[afQ]at hsz;omega
  |cons c r=>
   cases r with
   |nil=>rw[afP]at hsz;omega
   |cons d r'=>exact⟨c,d,r',rfl⟩
 have t1:(2:Int)<=s.size:=by omega
 have hp0:0<s.size:=by omega
 have hp1:1<s.size:=by omega
 have aqJ:(0:Int)<s.size:=by omega
 have aqK:(1:Int)<s.size:=by omega
 have aqL:(1:Int)<=s.size:=by omega
 have e0:s[0]'hp0=c:=by have:=hsg 0 hp0;simpa using this.symm
 have e1:s[1]'hp1=d:=by have:=hsg 1 hp1;simpa using this.symm
 have hu:=o9;obtain⟨z,hz⟩:=aj (s.extract 1 s.size)
 have hzl:z.data.toList=d :: r':=by
  rw[<-hz,aso,hl];simp;rw[aeG];simp at hsz⊢;omega
 have hzs:z.size=r'.length+1:=by rw[aof,hzl];rfl
 have hrl:(d :: r').length+1=s.size:=by rw[hsz];rfl
 have hrl2:r'.length+2=s.size:=by rw[hsz];rfl
 rw[aaM]at hR;by_cases h5:5<s.size
 ·rw[aeu (.inr (.inl (by omega)))]at hR
  have HR:=ah hR.symm;have t2:(5:Int)<s.size:=by omega
  clear hR hsg hsz hl h2 h5 e0 e1 hzl hzs hrl hrl2 hz;go_enter func226,ntmps226;go_wp2
  go_ret2
  exact qp.none_ HR.out (aoa _ _)
 have t2:(s.size:Int)<=5:=by omega
 by_cases hpm:c≠112/\c≠109
 ·rw[aeu (.inr (.inr (.inl hpm)))]at hR
  have HR:=ah hR.symm;have t3:(((s[0]'hp0).toNat:Int) !=112)=true:=by rw[e0,bne,show(112:Int)=((112:UInt8).toNat:Int) from rfl,PN,dF hpm.1];rfl
  have t4:(((s[0]'hp0).toNat:Int) !=109)=true:=by rw[e0,bne,show(109:Int)=((109:UInt8).toNat:Int) from rfl,PN,dF hpm.2];rfl
  clear hR hsg hsz hl h2 h5 e0 e1 hzl hzs hrl hrl2 hz hpm;go_enter func226,ntmps226;go_wp2
  go_ret2
  exact qp.none_ HR.out (aoa _ _)
 have hcc:c=112\/c=109:=by
  by_cases h:c=112
  ·exact .inl h
  exact .inr (an3 fun h'=>hpm ⟨h,h'⟩)
 have hI:=aaC z w (by omega)
 rw[hzl]at hI
 rcases hcc with hcv|hcv
 ·subst hcv
  have t3:(((s[0]'hp0).toNat:Int) !=112)=false:=by rw[e0];rfl
  have t4:(((s[0]'hp0).toNat:Int) !=109)=true:=by rw[e0];rfl
  have t9:(((s[0]'hp0).toNat:Int) == 109)=false:=by rw[e0];rfl
  cases hi:Num.isInt (d :: r') with
  |false=>
   rw[hi]at hI;rw[aeu (.inr (.inr (.inr (.inl hi))))]at hR;have HR:=ah hR.symm;have HI:=ah hI;clear hR hsg hsz hl h2 h5 e0 e1 hzl hzs hrl hrl2 hI hi hpm;go_enter func226,ntmps226;go_wp2_with fail;refine iq8 HI ?_;go_wp2
   go_ret2
   exact qp.none_ HR.out (aoa _ _)
  |true=>
   rw[hi]at hI;by_cases uH:d=45
   ·rw[aeu (.inr (.inr (.inr (.inr (.inl (by rw[uH];rfl))))))]at hR
    have HR:=ah hR.symm;have HI:=ah hI;have t5:(((s[1]'hp1).toNat:Int) == 45)=true:=by rw[e1,uH];rfl
    clear hR hsg hsz hl h2 h5 e0 e1 hzl hzs hrl hrl2 hI hi hpm uH;go_enter func226,ntmps226;go_wp2_with fail;refine iq8 HI ?_;go_wp2
    go_ret2
    exact qp.none_ HR.out (aoa _ _)
   have t5:(((s[1]'hp1).toNat:Int) == 45)=false:=by rw[e1,show(45:Int)=((45:UInt8).toNat:Int) from rfl,PN,dF uH]
   have hhd:(d :: r':List UInt8).head?≠some 45:=by simp[uH]
   have hg:=Num.TP hi hhd;have hlen: ¬4<(d :: r':List UInt8).length:=by omega
   rw[aer (by
    rintro(h|h|h|h|h|h)
    ·cases h
    ·exact hlen h
    ·exact hpm h
    ·rw[hi]at h;cases h
    ·exact hhd h
    exact absurd h.1 (by decide))]at hR
   have t6:(s.toList ==[109,48])=false:=by
    rw[aod,hl];rfl
   have hk:Num.aX 0 (d :: r')<10000:=by
    have h1:=Num.Fp (d :: r') 0 hg.1;have h3:10 ^(d :: r':List UInt8).length<=10 ^ 4:=afT (by decide) (by omega)
    have e4:(10:Nat) ^ 4=10000:=by decide
    omega
   obtain⟨k,hkk⟩:=aj (Num.aX 0 (d :: r'))
   have hat:Lib.atoiAll z.data.toList=.ok (k:Int):=by
    rw[hzl,<-atw];have:=Num.TK hg;rw[hkk]at this;rw[show(d :: r':List UInt8)=Num.sg false ++(d :: r') from rfl,this,aer (by unfold Num.over;simp;omega)]
    rfl
   rw[hkk]at hk;have hE:Num.wG 112 (d :: r')=(k:Int):=by rw[Num.TN (by decide),hkk]
   rw[hE]at hR;have hca:=(Tryz.strconv_Atoi_ok z (by omega) (k:Int) hat w).mono fun e w' ⟨h1,h2⟩=>(⟨h1,below_bytesWorld h2⟩:e=Ending.returned (.tuple #[.int .i64 (k:Int),.nilIface])/\Below w.heap.size w w')
   refine gq3 hca hR.symm hI fun Lu HR HI=>?_;have hki:(k:Int)<=9999:=by omega
   have anw:(0:Int)<=k:=by omega
   clear hR hsg hsz hl h2 h5 e0 e1 hzl hzs hrl hrl2 hI hi hpm uH hhd hg hlen hk hkk hat hE hca;by_cases hbd:(k:Int)<=1023
   ·have hbd2: -1074<=(k:Int):=by omega
    have hr:=HR.out;rw[aeu ⟨hbd,hbd2⟩]at hr;have HR2:=ah hr;clear hr;go_enter func226,ntmps226;go_wp2_with fail;refine iq8 HI ?_;go_wp2_with fail;refine mq8 Lu fun w1 hb1=>?_;have HB1:=ah hb1;clear hb1;go_wp2
    go_ret2
    exact qp.some_ HR2.out HB1.out
   have hr:=HR.out;rw[aer (by omega)]at hr
   have HR2:=ah hr;have hbd2:(1023:Int)<k:=by omega
   skip
   clear hr;go_enter func226,ntmps226;go_wp2_with fail;refine iq8 HI ?_;go_wp2_with fail;refine mq8 Lu fun w1 hb1=>?_;have HB1:=ah hb1;clear hb1;go_wp2
   go_ret2
   exact qp.none_ HR2.out HB1.out
 subst hcv;have t3:(((s[0]'hp0).toNat:Int) !=112)=true:=by rw[e0];rfl
 have t4:(((s[0]'hp0).toNat:Int) !=109)=false:=by rw[e0];rfl
 have t9:(((s[0]'hp0).toNat:Int) == 109)=true:=by rw[e0];rfl
 cases hi:Num.isInt (d :: r') with
 |false=>
  rw[hi]at hI;rw[aeu (.inr (.inr (.inr (.inl hi))))]at hR;have HR:=ah hR.symm;have HI:=ah hI;clear hR hsg hsz hl h2 h5 e0 e1 hzl hzs hrl hrl2 hI hi hpm;go_enter func226,ntmps226;go_wp2_with fail;refine iq8 HI ?_;go_wp2
  go_ret2
  exact qp.none_ HR.out (aoa _ _)
 |true=>
  rw[hi]at hI;by_cases uH:d=45
  ·rw[aeu (.inr (.inr (.inr (.inr (.inl (by rw[uH];rfl))))))]at hR
   have HR:=ah hR.symm;have HI:=ah hI;have t5:(((s[1]'hp1).toNat:Int) == 45)=true:=by rw[e1,uH];rfl
   clear hR hsg hsz hl h2 h5 e0 e1 hzl hzs hrl hrl2 hI hi hpm uH;go_enter func226,ntmps226;go_wp2_with fail;refine iq8 HI ?_;go_wp2
   go_ret2
   exact qp.none_ HR.out (aoa _ _)
  have t5:(((s[1]'hp1).toNat:Int) == 45)=false:=by rw[e1,show(45:Int)=((45:UInt8).toNat:Int) from rfl,PN,dF uH]
  have hhd:(d :: r':List UInt8).head?≠some 45:=by simp[uH]
  by_cases hm0:(d :: r':List UInt8)=[48]
  ·rw[aeu (.inr (.inr (.inr (.inr (.inr ⟨rfl,hm0⟩)))))]at hR
   have HR:=ah hR.symm;have HI:=ah hI;have t6:(s.toList ==[109,48])=true:=by rw[aod,hl,hm0];rfl
   clear hR hsg hsz hl h2 h5 e0 e1 hzl hzs hrl hrl2 hI hi hpm uH hhd hm0;go_enter func226,ntmps226;go_wp2_with fail;refine iq8 HI ?_;go_wp2
   go_ret2
   exact qp.none_ HR.out (aoa _ _)
  have hg:=Num.TP hi hhd;have hlen: ¬4<(d :: r':List UInt8).length:=by omega
  rw[aer (by
   rintro(h|h|h|h|h|h)
   ·cases h
   ·exact hlen h
   ·exact hpm h
   ·rw[hi]at h;cases h
   ·exact hhd h
   exact hm0 h.2)]at hR
  have t6:(s.toList ==[109,48])=false:=by
   rw[aod,hl];cases hq:((109 :: d :: r':List UInt8) ==[109,48]) with
   |false=>rfl
   |true=>exact absurd (aq3 (eq_of_beq hq)).2 hm0
  have hk:Num.aX 0 (d :: r')<10000:=by
   have h1:=Num.Fp (d :: r') 0 hg.1;have h3:10 ^(d :: r':List UInt8).length<=10 ^ 4:=afT (by decide) (by omega)
   have e4:(10:Nat) ^ 4=10000:=by decide
   omega
  obtain⟨k,hkk⟩:=aj (Num.aX 0 (d :: r'))
  have hat:Lib.atoiAll z.data.toList=.ok (k:Int):=by
   rw[hzl,<-atw];have:=Num.TK hg;rw[hkk]at this;rw[show(d :: r':List UInt8)=Num.sg false ++(d :: r') from rfl,this,aer (by unfold Num.over;simp;omega)]
   rfl
  rw[hkk]at hk;have hE:Num.wG 109 (d :: r')= -(k:Int):=by rw[Num.TM,hkk]
  rw[hE]at hR;have hca:=(Tryz.strconv_Atoi_ok z (by omega) (k:Int) hat w).mono fun e w' ⟨h1,h2⟩=>(⟨h1,below_bytesWorld h2⟩:e=Ending.returned (.tuple #[.int .i64 (k:Int),.nilIface])/\Below w.heap.size w w')
  refine gq3 hca hR.symm hI fun Lu HR HI=>?_;have hki:(k:Int)<=9999:=by omega
  have anw:(0:Int)<=k:=by omega
  clear hR hsg hsz hl h2 h5 e0 e1 hzl hzs hrl hrl2 hI hi hpm uH hhd hg hlen hk hkk hat hE hca hm0;by_cases hbd: -1074<= -(k:Int)
  ·have hbd2: -(k:Int)<=1023:=by omega
   have hr:=HR.out;rw[aeu ⟨hbd2,hbd⟩]at hr;have HR2:=ah hr;clear hr;go_enter func226,ntmps226;go_wp2_with fail;refine iq8 HI ?_;go_wp2_with fail;refine mq8 Lu fun w1 hb1=>?_;have HB1:=ah hb1;clear hb1;go_wp2
   go_ret2
   exact qp.some_ HR2.out HB1.out
  have hr:=HR.out;rw[aer (by omega)]at hr
  have HR2:=ah hr;have hbd2: -(k:Int)< -1074:=by omega
  have aqM: -(k:Int)<=1023:=by omega
  have aqN:(1074:Int)<k:=by omega
  have aqO:decide ((k:Int)<=1074)=false:=dF (by omega)
  clear hr;go_enter func226,ntmps226;go_wp2_with fail;refine iq8 HI ?_;go_wp2_with fail;refine mq8 Lu fun w1 hb1=>?_;have HB1:=ah hb1;clear hb1;go_wp2
  go_ret2
  exact qp.none_ HR2.out HB1.out
end Go.Proofs.YtdijgcnlbfgkdaaGreatDoor
namespace Go.Proofs.YtdijgcnlbfgkdaaGreatDoor
open Go.RowKit Go.Lib Go.Proofs.Tryz
def aiv (s:ByteArray) (w:World) (_hs:s.size<=1048576) (hascii: ∀(j:Nat) b,s.data.toList[j]?=some b->b.toNat<128):
  Calls prog 249 #[.string s,.int .i32 65533] w fun e w'=>e=.returned (.int .i64 (-1))/\ ∃pos,w'=w.iter s pos:=by
 have HA:=ah hascii;clear hascii;go_enter func249,ntmps249;go_wp2
 go_loopg [5,6] s.size (fun g _ _ wx=> ∃i:Nat,i+g=s.size/\wx=w.iter s i)
 case atStart=>exact⟨0,by omega,rfl⟩
 obtain⟨i,hig,rfl⟩:=hrel;cases gk with
 |zero=>
  obtain rfl:i=s.size:=by omega
  have hnx:=run_next_end (P:=prog) w s s.size;go_wp2;go_ret;exact⟨rfl,_,rfl⟩
 |succ g=>
  have hi:i<s.size:=by omega
  obtain⟨x,hx⟩:=aj (s[i]'hi:UInt8);have hx128:x.toNat<128:=HA.out i x (by rw[<-hx];exact ar8 s i hi)
  have hnx:=fun ty=>run_next_ascii (P:=prog) w s i ty hi (by rw[hx];exact hx128)
  rw[hx]at hnx;have hne:((x.toNat:Int) == 65533)=false:=by simp;omega
  clear hx;go_wp2
  go_roundg g
  case measure=>omega
  exact⟨i+1,by omega,rfl⟩
def aiw (s:ByteArray) (hascii: ∀(j:Nat) b,s.data.toList[j]?=some b->b.toNat<128) (k:Nat) (_hk:k<=s.size) (c:UInt8) (hc:128<=c.toNat):Lib.indexByte ((s.extract k s.size).data.toList) c= -1:=by
 have hno: ∀(l:List UInt8),(∀b∈l,b.toNat<128)->Lib.indexByte l c= -1:=by
  intro l
  induction l with
  |nil=>intro _;rfl
  |cons b l ih=>
   intro h;have hb:b≠c:=fun e=>by subst e;have:=h b (by simp);omega
   rw[Lib.indexByte,ih (fun x hx=>h x (by simp[hx]))]
   simp[hb]
 refine hno _ fun b hb=> ?_
 rw[aso]at hb;obtain⟨j,hj⟩:=apX.1 hb;have:=List.mem_of_mem_drop (aoB hb);obtain⟨j,hj⟩:=apX.1 this;exact hascii j b hj
def aix (s:ByteArray) (r:Nat) (w:World) (_hs:s.size<=1048576) (hascii: ∀(j:Nat) b,s.data.toList[j]?=some b->b.toNat<128)
  (hr:128<=r) (hr':r<=1114111) (hne:r≠65533) (hv:Utf8.valid (r:Int)=true):
  Calls prog 249 #[.string s,.int .i32 r] w fun e w'=>e=.returned (.int .i64 (-1))/\ ∃n,w'=w.drewN n:=by
 obtain⟨e2,e4,elast⟩:=ail r hr;have h1:((r:Int) == 65533)=false:=by simp;omega
 have h128: ¬((r:Int)<128):=by omega
 have hvr:Lib.validRune r=true:=by
  simp only[Utf8.valid,anO,afx,aeU]at hv;simp[Lib.validRune];omega
 have hcv: ∀wx:World,Calls prog 263 #[.int .i32 r] wx fun e w'=>e=.returned (.bool true)/\wx=w':=fun wx=>
  (Tryz.utf8_ValidRune _ wx).mono fun e w' ⟨he,hw⟩=>⟨by rw[he,hvr],hw.symm⟩
 go_enter func249,ntmps249;go_wp2_with (go_at_call 263;refine(hcv _).mono ?_;rintro e w' ⟨rfl,rfl⟩);clear hcv hvr;obtain⟨m,hm⟩: ∃m,(Utf8.encode (r:Int)).size=m+1:=⟨(Utf8.encode (r:Int)).size - 1,by omega⟩
 go_step3
 go_wp2;obtain⟨rs,hrs⟩:=aj (Utf8.encode (r:Int));rw[hrs]at e2 e4 elast hm⊢;have EL:=ah elast;have HA:=ah hascii;clear hrs elast hascii hv hne h1;refine atg 1 ?_;rw[as8];by_cases hlt:m<s.size
 ·have HL:(s[m]'hlt).toNat<128:=HA.out m _ (ar8 s _ hlt)
  have HR:128<=(rs[m]'(by omega)).toNat:=by rw[<-get_at];have:=EL.out;rwa [hm]at this
  have hh:decide (m<s.size)=true:=by simp;omega
  go_wp2
  go_step3
  go_wp2;have BN:(m:Int)<m+1:=by omega
  have hne:((s[m]'hlt).toNat:Int)≠((rs[m]'(by omega)).toNat:Int):=by omega
  have hneb:(((s[m]'hlt).toNat:Int) ==((rs[m]'(by omega)).toNat:Int))=false:=by simp;omega
  have hib: ∀wx:World,Calls prog 228 #[.string (s.extract (m+1) s.size),.int .u8 ((rs[m]'(by omega)).toNat:Int)] wx fun e w'=>e=.returned (.int .i64 (-1))/\w'=wx:=fun wx=>
   (Tryz.strings_IndexByte _ _ wx).mono fun e w' ⟨he,hw⟩=>⟨by rw[he,aiw s HA.out (m+1) (by omega) _ (by simpa using HR)],hw⟩
  go_quiet (fail)
  go_wp2
  go_quiet ((go_at_call 228;exact xY (hib _)))
  go_wp2;simp only[Exit.noGoto_ret,Exit.inBlock,Exit.then];go_ret;exact⟨rfl,_,rfl⟩
 have hh:decide (m<s.size)=false:=by simp;omega
 go_wp2;rw[Exit.noGoto_ret];go_ret;exact⟨rfl,0,rfl⟩
def aiy: ∀w,(zeroValue 235).run prog w=.ok (.agg (Array.replicate 256 (.bool false))) w:=
 (zero_of_info (n:=256) (show(prog.info? 235).map (fun i=>(i.zero,i.size))=some (some (.agg (Array.replicate 256 (.bool false))),256) by kernel_rfl)).1
def aiz {cs:ByteArray} (hascii: ∀(j:Nat) b,cs.data.toList[j]?=some b->b.toNat<128) (b:UInt8) (hb:128<=b.toNat):cs.data.toList.contains b=false:=by
 cases h:cs.data.toList.contains b with
 |false=>rfl
 |true=>
  obtain⟨j,hj⟩:=apX.1 (List.contains_iff_mem.1 h);have:=hascii j b hj;omega
def aiA {s cs:ByteArray} {i n:Nat} (hascii: ∀(j:Nat) b,cs.data.toList[j]?=some b->b.toNat<128) (h:Lib.NoAny s.data.toList cs.data.toList i)
  (hn:i+n<=s.size) (hb: ∀j,i<=j->j<i+n->128<=(s.get! j).toNat):Lib.NoAny s.data.toList cs.data.toList (i+n):=fun j b hj hx=>by
 by_cases e:j<i
 ·exact h j b e hx
 have:=hb j (by omega) hj
 rw[get_at s j (by omega)]at this
 rw[Dz s j (by omega)]at hx
 cases hx;exact aiz hascii _ this
def aiB (cs:ByteArray) (c:Nat) (w:World) (hc:cs.size<=1048576) (hascii: ∀(j:Nat) b,cs.data.toList[j]?=some b->b.toNat<128) (h:128<=c->c<=1114111/\Utf8.valid (c:Int)=true):
  Calls prog 249 #[.string cs,.int .i32 c] w fun e w'=>e=.returned (.int .i64 (if c<128 then Lib.indexByte cs.data.toList c.toUInt8 else -1))/\Below w.heap.size w w':=by
 by_cases hlt:c<128
 ·refine(Tryz.strings_IndexRune_ascii cs c w (by omega) (by omega)).mono fun e w' ⟨h,h'⟩=>⟨by rw[h,aeu hlt];rfl,by rw[h'];exact aoa _ _⟩
 obtain⟨h1,h2⟩:=h (by omega)
 by_cases he:c=65533
 ·subst he
  refine(aiv cs w hc hascii).mono fun e w' ⟨h,pos,h'⟩=>⟨by rw[h,aer hlt],by rw[h'];exact(aoa _ _).alloc (aej _) _⟩
 refine(aix cs c w hc hascii (by omega) h1 he h2).mono fun e w' ⟨h,n,h'⟩=>⟨by rw[h,aer hlt],by rw[h'];exact below_drewN (aoa _ _) n⟩
def below_iterAt {B:Nat} {w:World} {k:Nat} {s:ByteArray} {p:Nat} (_h:B<=w.heap.size) (hk:B<=k):Below B w (w.iterAt k s p):=
 ⟨rfl,rfl,rfl,by simp[World.iterAt],fun j hj=>by
  simp only[World.iterAt]
  rw[aqd,aer (by omega)]⟩
def PO (s cs:ByteArray) (w:World) (hs:s.size<4294967281) (h2:2<=cs.size) (hc:cs.size<=1048576) (hascii: ∀(j:Nat) b,cs.data.toList[j]?=some b->b.toNat<128):
  Calls prog 224 #[.string s,.string cs] w fun e w'=>e=.returned (.int .i64 (Lib.indexAny s.data.toList cs.data.toList))/\Below w.heap.size w w':=by
 by_cases h8:8<s.size
 ·refine(Tryz.strings_IndexAny_long aiy s cs w h2 h8 hs (by omega) hascii).mono fun e w' ⟨h,h'⟩=>⟨h, ?_⟩
  subst h';exact((aoa _ _).alloc (aej _) _).alloc (by simp) _
 have HA:=ah hascii;clear hascii
 have hemp:cs.toList.isEmpty=false:=by
  rw[aod];cases h:cs.data.toList with
  |nil=>have:=aof cs;rw[h,afQ]at this;omega
  |cons _ _=>rfl
 have hn1:((cs.size:Int) == 1)=false:=aek.2 (by omega)
 have h8z:decide ((8:Int)<(s.size:Int))=false:=dF (by omega)
 have hsu: ∀wx:World,Calls prog 250 #[.int .i64 s.size] wx fun e w'=>e=.returned (.bool false)/\wx=w':=fun wx=>
  (Tryz.strings_shouldUseASCIISet _ wx).mono fun e w' ⟨he,hw⟩=>⟨by rw[he,h8z],hw.symm⟩
 go_enter func224,ntmps224;go_wp2_with (go_at_call 250;refine(hsu _).mono ?_;rintro e w' ⟨rfl,rfl⟩)
 go_loopg [9,10] s.size (fun g _ _ wx=> ∃i:Nat,i+g=s.size/\wx.heap[w.heap.size]?=some (.stringIter s i)/\Below w.heap.size w wx/\Lib.NoAny s.data.toList cs.data.toList i)
 case atStart=>exact⟨0,by omega,World.iter_heap _ _ _,(aoa _ _).alloc (aej _) _,Lib.NoAny.zero _ _⟩
 obtain⟨i,hig,hit,hb,hno⟩:=hrel;have HN:=ah hno;have HI:=ah hit;clear hno;cases gk with
 |zero=>
  obtain rfl:i=s.size:=by omega
  have hnx:=fun ty=>Lib.run_next_end_at (P:=prog) wr w.heap.size s s.size ty HI.out (by omega)
  clear hit;go_wp2;go_ret;exact⟨by rw[Lib.indexAny_none (by rw[<-aof];exact HN.out)];rfl,hb⟩
 |succ g=>
  have hi:i<s.size:=by omega
  have hnx:=fun ty=>Lib.run_next_any_at (P:=prog) wr w.heap.size s i ty HI.out hi
  clear hit;obtain⟨d,hd⟩:=aj (Utf8.decode s i);rw[hd]at hnx
  have Wv:=fun wx=>aiB cs d.1 wx hc HA.out (fun h128=>by
   by_cases h1:(s[i]'hi).toNat<128
   ·rw[decode_ascii s i hi h1]at hd;subst hd;omega
   obtain⟨_,a2,a3,_⟩:=decode_high s i hi (by omega)
   rw[hd]at a2 a3
   exact⟨a2,a3⟩)
  have HD:=ah hd;clear hd;obtain⟨R,hR⟩:=aj ((if d.1<128 then Lib.indexByte cs.data.toList d.1.toUInt8 else -1):Int)
  rw[hR]at Wv;have HR:=ah hR;clear hR;by_cases h0:0<=R
  ·have h1:d.1<128:=by
    have:=HR.out
    split at this
    ·assumption
    omega
   go_wp2_with (go_at_call 249;refine(Wv _).mono ?_;rintro e w' ⟨rfl,hb'⟩);go_ret
   have hs1:(s[i]'hi).toNat<128:=by
    rcases ahi (s[i]'hi).toNat 128 with h|h
    ·exact h
    have:=(decode_high s i hi h).1;rw[HD.out]at this;omega
   have hd2:=decode_ascii s i hi hs1;rw[HD.out]at hd2;subst hd2;refine⟨?_, ?_⟩
   ·rw[Lib.indexAny_hit HN.out (Dz s i hi)]
    ·rfl
    rw[ato];have:=HR.out;simp only[hs1,anN]at this;simp at this;rw[this]
    simpa using h0
   exact(hb.trans (below_iterAt hb.size (aej _))).trans (hb'.mono (by simpa[World.iterAt] using hb.size))
  go_wp2_with (go_at_call 249;refine(Wv _).mono ?_;rintro e w' ⟨rfl,hb'⟩);have hb2:=(hb.trans (below_iterAt (s:=s) (p:=i+d.2) hb.size (aej _))).trans (hb'.mono (by simpa[World.iterAt] using hb.size))
  have hlt:w.heap.size<wr.heap.size:=(afb.1 HI.out).1
  have hcase:1<=d.2/\i+d.2<=s.size/\Lib.NoAny s.data.toList cs.data.toList (i+d.2):=by
   by_cases h1:(s[i]'hi).toNat<128
   ·have hd2:=decode_ascii s i hi h1
    rw[HD.out]at hd2;subst hd2;refine⟨by simp,by simp;omega,HN.succ (Dz s i hi) ?_⟩
    have:=HR.out;simp only[h1,anN]at this;simp at this;rw[ato,this]
    simpa using h0
   obtain⟨_,_,_,a4,a5,a6⟩:=decode_high s i hi (by omega)
   rw[HD.out]at a4 a5 a6;exact⟨a4,a5,aiA HA.out HN.out a5 a6⟩
  obtain⟨a4,a5,a6⟩:=hcase
  go_roundg (s.size -(i+d.2))
  case measure=>omega
  exact⟨i+d.2,by omega,(hb'.block _ (by simpa[World.iterAt] using hlt)).trans (by simp[World.iterAt,hlt]),hb2,a6⟩
end Go.Proofs.YtdijgcnlbfgkdaaGreatDoor
