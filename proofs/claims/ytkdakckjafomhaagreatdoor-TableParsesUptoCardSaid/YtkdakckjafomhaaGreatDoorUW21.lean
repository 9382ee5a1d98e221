/- Contracts and plain laws,part 21. -/
import Derived.Test.YtkdakckjafomhaaGreatDoorUW20
import Derived.Sort.LotA
import Derived.Shelf.SlGeneric
import Derived.Shelf.SlSortCmp.KitK
import Derived.Sort.WalkB2
import Derived.Sort.WalkB12
set_option maxHeartbeats 64000000
set_option maxRecDepth 1000000
set_option linter.all false
namespace Go.Proofs.YtkdakckjafomhaaGreatDoor.fK
open Go Go.Sort
variable {α:Type} [Inhabited α] {le:α->α->Bool}
theorem get_at {d:Array α} {p s:List α} {x:α} (h:d.toList=p++x :: s) {i:Nat} (hi:p.length=i):d[i]! =x/\i<d.size:=by
 have hl:=aeH List.length h;simp only[afS,adf,adQ]at hl;have hlt:i<d.size:=by omega
 refine⟨?_,hlt⟩;rw[anx d i hlt,<-aoG]
 have:d.toList[i]?=some x:=by rw[h,ae5 (by omega),hi,aqt];rfl
 rw[dF (by simpa using hlt)]at this
 exact ad4 this
theorem yZ {d:Array α} {l:List α} (h:d.toList=l) {i:Nat} {x:α} (hx:l[i]?=some x):d[i]! =x/\i<d.size:=by
 obtain⟨hi,hx⟩:=adw.1 hx;have hlt:i<d.size:=by rw[<-h]at hi;simpa using hi
 refine⟨?_,hlt⟩;rw[anx d i hlt,<-aoG,<-hx]
 congr 1
theorem UG {d:Array α} {p q s:List α} {x y:α} (h:d.toList=p++x ::(q++y :: s)) {i j:Nat} (hi:p.length=i) (hj:p.length+1+q.length=j):
  (swp d i j).toList=p++y ::(q++x :: s)/\(swp d j i).toList=p++y ::(q++x :: s):=by
 have h1:=(get_at h hi).1
 have h2:=(get_at (d:=d) (p:=p++x :: q) (s:=s) (x:=y) (by rw[h];simp) (i:=j) (by simp only[adf,adQ];omega)).1
 unfold swp;rw[h1,h2];simp only[aqH];rw[h];subst hi hj
 have e: ∀(u v:α) (z:List α),(p++u ::(q++z)).set p.length v=p++v ::(q++z):=fun u v z=>by rw[apF _ _ (by omega),aqt,adi]
 have e2: ∀(u v w:α),(p++u ::(q++w :: s)).set (p.length+1+q.length) v=p++u ::(q++v :: s):=fun u v w=>by
  rw[apF _ _ (by omega),show p.length+1+q.length - p.length=q.length+1 by omega,adl,apF _ _ (by omega),aqt,adi]
 exact⟨by rw[e,e2],by rw[e2,e]⟩
omit [Inhabited α]
def Ch (le:α->α->Bool) (w:Nat) (l:List α):Prop:= ∀k,bJ le ((l.drop (k*w)).take w)
theorem Ch.head {w:Nat} {l:List α} (h:Ch le w l):bJ le (l.take w):=by simpa using h 0
theorem Ch.tail {w:Nat} {l:List α} (h:Ch le w l):Ch le w (l.drop w):=fun k=>by
 have:=h (k+1);rw[am3,anc,<-anj];exact this
theorem Ch.nil (w:Nat):Ch le w []:=fun k=>by simp
theorem Ch.snoc {w k0:Nat} {p c:List α} (h:Ch le w p) (hp:p.length=k0*w) (hc:bJ le c) (hl:c.length<=w):Ch le w (p++c):=fun k=>by
 rcases aqZ k k0 with hk|rfl|hk
 ·have:k*w+w<=k0*w:=by have:=af8 w (show k+1<=k0 from hk);rwa [anj]at this
  rw[List.drop_append_of_le_length (by omega),ap6 (by rw[aej];omega)]
  exact h k
 ·rw[<-hp,ang,ado hl]
  exact hc
 have:k0*w+w<=k*w:=by have:=af8 w (show k0+1<=k from hk);rwa [anj]at this
 rw[amY (by rw[adf];omega)]
 simp
theorem Ch.all {w:Nat} {l:List α} (h:Ch le w l) (hl:l.length<=w):bJ le l:=by
 have:=h.head
 rwa [ado hl]at this
variable [Inhabited α]
theorem Di {d:Array α} {p l r:List α} {a t:Nat} (h:d.toList=p ++(l++r)) (hp:p.length=a) (h1:a<=t) (h2:t<a+l.length):l[t - a]?=some d[t]!/\t<d.size:=by
 have e:d.toList[t]?=l[t - a]?:=by rw[h,ae5 (by omega),hp,aeZ (by omega)]
 obtain⟨x,hx⟩: ∃x,l[t - a]?=some x:=⟨_,dF (by omega)⟩
 rw[hx]at e;obtain⟨e1,e2⟩:=yZ rfl e;exact⟨by rw[hx,e1],e2⟩
theorem ajW {d:Array α} {p B s:List α} {e:α} {a b i:Nat} (hT:Tot le) (h:d.toList=p ++(e ::(B++s))) (hp:p.length=a) (hb:a+1+B.length=b) (hB:bJ le B) (hi:a+1<=i) (hi2:i<=b) (h1:i=a+1\/le d[i - 1]! e=true) (h2:i=b\/le e d[i]! =true):
  bJ le (B.take (i -(a+1))++e :: B.drop (i -(a+1)))/\(B.take (i -(a+1))++e :: B.drop (i -(a+1))).Perm (e :: B):=by
 have h':d.toList=(p++[e]) ++(B++s):=by rw[h];simp
 have hp':(p++[e]).length=a+1:=by rw[adf,hp];rfl
 refine⟨abm hT hB ?_ ?_,abn _⟩
 ·rcases h1 with rfl|h1
  ·exact .inl (aqt _)
  by_cases h0:i=a+1
  ·exact .inl (by omega)
  exact .inr ⟨_,by rw[show i -(a+1) - 1=i - 1 -(a+1) by omega];exact(Di h' hp' (by omega) (by omega)).1,h1⟩
 rcases h2 with rfl|h2
 ·exact .inl (by omega)
 by_cases h0:i=b
 ·exact .inl (by omega)
 exact .inr ⟨_,(Di h' hp' (by omega) (by omega)).1,h2⟩
theorem ajX {d:Array α} {p A s:List α} {e:α} {a m i:Nat} (hT:Tot le) (h:d.toList=p ++(A++e :: s)) (hp:p.length=a) (hm:a+A.length=m) (hA:bJ le A) (hi:a<=i) (hi2:i<=m) (h1:i=a\/le d[i - 1]! e=true) (h2:i=m\/le e d[i]! =true):
  bJ le (A.take (i - a)++e :: A.drop (i - a))/\(A.take (i - a)++e :: A.drop (i - a)).Perm (A++[e]):=by
 refine⟨abm hT hA ?_ ?_,(abn _).trans (List.perm_append_singleton e A).symm⟩
 ·rcases h1 with rfl|h1
  ·exact .inl (aqt _)
  by_cases h0:i=a
  ·exact .inl (by omega)
  exact .inr ⟨_,by rw[show i - a - 1=i - 1 - a by omega];exact(Di h hp (by omega) (by omega)).1,h1⟩
 rcases h2 with rfl|h2
 ·exact .inl (by omega)
 by_cases h0:i=m
 ·exact .inl (by omega)
 exact .inr ⟨_,(Di h hp (by omega) (by omega)).1,h2⟩
theorem ajY {d:Array α} {p A B s:List α} {a m b mid st:Nat} (h:d.toList=p ++(A ++(B++s))) (hp:p.length=a) (hm:a+A.length=m) (hb:m+B.length=b) (hs0:a<=st) (hs1:st<=m) (hs2:st<=mid) (hs3:mid+m - st<=b)
  (h1:st=a\/mid+m - st=b\/le d[st - 1]! d[mid+m - 1 -(st - 1)]! =true) (h2:st=m\/st=mid\/le d[mid+m - 1 - st]! d[st]! =true):
  (st - a=0\/mid - st=B.length\/ ∃x y,A[st - a - 1]?=some x/\B[mid - st]?=some y/\le x y=true)/\
  (st - a=A.length\/mid - st=0\/ ∃x y,B[mid - st - 1]?=some x/\A[st - a]?=some y/\le x y=true):=by
 have h':d.toList=(p++A) ++(B++s):=by rw[h];simp
 have hp':(p++A).length=m:=by rw[adf,hp];exact hm
 constructor
 ·by_cases e1:st=a
  ·exact .inl (by omega)
  by_cases e2:mid+m - st=b
  ·exact .inr (.inl (by omega))
  refine .inr (.inr ⟨_,_, ?_, ?_,(h1.resolve_left e1).resolve_left e2⟩)
  ·rw[show st - a - 1=st - 1 - a by omega];exact(Di h hp (by omega) (by omega)).1
  rw[show mid - st=mid+m - 1 -(st - 1) - m by omega];exact(Di h' hp' (by omega) (by omega)).1
 by_cases e1:st=m
 ·exact .inl (by omega)
 by_cases e2:st=mid
 ·exact .inr (.inl (by omega))
 refine .inr (.inr ⟨_,_, ?_, ?_,(h2.resolve_left e1).resolve_left e2⟩)
 ·rw[show mid - st - 1=mid+m - 1 - st - m by omega];exact(Di h' hp' (by omega) (by omega)).1
 exact(Di h hp (by omega) (by omega)).1
omit [Inhabited α] in
theorem ajZ {lt:α->α->Bool} (hT:Tot le) (hcf: ∀x y,lt x y= !le y x):SWO lt:=by
 refine⟨fun x=>by rw[hcf,le_refl hT];rfl,fun x y z h1 h2=> ?_,fun x y z h1 h2=> ?_⟩
 ·rw[hcf]at h1 h2⊢
  simp only[aoo]at h1 h2⊢;cases h:le z x with
  |false=>rfl
  |true=>rw[hT.trans (hT.total h2) h]at h1;exact Bool.noConfusion h1
 rw[hcf]at h1 h2⊢;simp only[aqz]at h1 h2⊢;exact hT.trans h2 h1
theorem aj0 {lt:α->α->Bool} {d d':Array α} {a b:Nat} {p x s:List α} (h:PermIn a b d d') (hs:SortedIn lt a b d') (hcf: ∀x y,lt x y= !le y x) (hl:d.toList=p ++(x++s)) (ha:p.length=a) (hx:a+x.length=b):
  ∃x',d'.toList=p ++(x' ++ s)/\bJ le x'/\x'.Perm x:=by
 obtain⟨h1,h2,h3⟩:=h;have hlen:=aeH List.length hl;simp only[afS,adf]at hlen
 have hd: ∀i,i<d.size->d.toList[i]?=some d[i]!:=fun i hi=>by rw[anx d i hi,<-aoG,dF]
 have hd': ∀i,i<d.size->d'.toList[i]?=some d'[i]!:=fun i hi=>by rw[anx d' i (by omega),<-aoG,dF]
 have e: ∀(c:Array α),(c.extract a b).toList=(c.toList.drop a).take (b - a):=fun c=>by rw[Array.toList_extract,List.extract_eq_take_drop]
 have hp:d'.toList.take a=p:=by
  refine anV fun i=> ?_
  rcases am5 i a with hi|hi
  ·rw[am4 hi,hd' i (by omega),h2 i (.inl hi),<-hd i (by omega),hl,aeZ (by omega)]
  rw[afB (by rw[aeb];omega),afB (by omega)]
 have hq:d'.toList.drop b=s:=by
  refine anV fun i=> ?_
  rw[agh]
  rcases am5 (b+i) d.size with hi|hi
  ·rw[hd' _ hi,h2 _ (.inr (by omega)),<-hd _ hi,hl,ae5 (by omega),ae5 (by omega)]
   congr 1
   omega
  rw[afB (by rw[afS];omega),afB (by omega)]
 refine⟨(d'.toList.drop a).take (b - a), ?_, ?_, ?_⟩
 ·conv=>lhs;rw[<-aeN a d'.toList,<-aeN (b - a) (d'.toList.drop a),am3]
  rw[hp,show a+(b - a)=b by omega,hq]
 ·refine af5.2 fun i j hi hj hij=> ?_
  simp only[aeb,aej,afS]at hi hj;have:=hs (a+i) (a+j) (by omega) (by omega) (by omega)
  rw[hcf,aqz]at this
  simpa[List.getElem_take,aor,anx d' (a+i) (by omega),anx d' (a+j) (by omega)] using this
 rw[e,e]at h3;refine h3.trans ?_
 rw[hl,show(p ++(x++s)).drop a=x++s by rw[<-ha,ang],show b - a=x.length by omega,aph]
end Go.Proofs.YtkdakckjafomhaaGreatDoor.fK
namespace Go.Proofs.YtkdakckjafomhaaGreatDoor.fK
open Go Go.Shelf
def jD (ρ:Ren):Operand->Operand
 |.func f=> .func (ρ.f f)
 |x=>x
def DV (ρ:Ren):Callee->Callee
 |.value f=> .value (jD ρ f)
 |x=>x
def Dj (ρ:Ren):Op->Op
 |.move x=> .move (jD ρ x)
 |.assign x=> .assign (jD ρ x)
 |.pick a b c=> .pick (jD ρ a) (jD ρ b) (jD ρ c)
 |.load t a=> .load (ρ.t t) (jD ρ a)
 |.store t a v=> .store (ρ.t t) (jD ρ a) (jD ρ v)
 |.binOp o t x y u=> .binOp o (ρ.t t) (jD ρ x) (jD ρ y) (ρ.t u)
 |.unOp o t x=> .unOp o (ρ.t t) (jD ρ x)
 |.convert s d x=> .convert (ρ.t s) (ρ.t d) (jD ρ x)
 |.indexAddr t x i=> .indexAddr (ρ.t t) (jD ρ x) (jD ρ i)
 |.call c=> .call ⟨DV ρ c.callee,(c.args.toList.map (jD ρ)).toArray,(c.argTypes.toList.map ρ.t).toArray⟩
 |o=>o
def DW (ρ:Ren) (o:Oper):Oper:=⟨o.dst,Dj ρ o.op,ρ.t o.type,o.pos,o.after,o.guard⟩
def qy (ρ:Ren):Code->Code
 |.region i ops d=> .region i (ops.toList.map (DW ρ)).toArray d
 |.seq a b=> .seq (qy ρ a) (qy ρ b)
 |.cond c a b=> .cond (jD ρ c) (qy ρ a) (qy ρ b)
 |.block i b=> .block i (qy ρ b)
 |.loop b=> .loop (qy ρ b)
 |.scope b=> .scope (qy ρ b)
 |c=>c
def Bd (P:Program) (ρ:Ren) (i:Nat) (f:Func):Prop:= ∃(nm:String) (tg ps rt:Array TypeId),(nm == "runtime.NumGoroutine")=false/\P.funcs[ρ.f i]?=some {f with name:=nm,targs:=tg,params:=ps,resultTypes:=rt,body:=f.body.map (qy ρ)}
theorem Bd.enters {P:Program} {ρ:Ren} {i:Nat} {f:Func} {c:Code} (h:Bd P ρ i f) (hb:f.body=some c): ∀args w,(callFunc (ρ.f i) args).run P w=.ok (.enter (ρ.f i) args) w:=by
 obtain⟨nm,tg,ps,rt,hn,hf⟩:=h;exact enters_of hf hn (c:=qy ρ c) (by rw[hb];rfl)
end Go.Proofs.YtkdakckjafomhaaGreatDoor.fK
namespace Go.Proofs.YtkdakckjafomhaaGreatDoor.pz
open Go Go.Shelf Go.RowKit Go.Lib Go.Sort Go.Proofs Go.Proofs.YtkdakckjafomhaaGreatDoor.fK
variable {P:Program} {ρ:Ren} {α:Type} [Inhabited α]
structure uj (P:Program) (ρ:Ren) (k:Nat):Prop where
 mixed:P.follows .mixedOrders=true
 t0:P.underlying (ρ.t 0)=some (.tuple #[])
 a0: ∀w,(isAgg (ρ.t 0)).run P w=.ok false w
 z0: ∀w,(Go.sizeOf (ρ.t 0)).run P w=.ok 1 w
 v0: ∀w,(zeroValue (ρ.t 0)).run P w=.ok (.tuple #[]) w
 t3:P.underlying (ρ.t 3)=some (.int .i64)
 a3: ∀w,(isAgg (ρ.t 3)).run P w=.ok false w
 z3: ∀w,(Go.sizeOf (ρ.t 3)).run P w=.ok 1 w
 v3: ∀w,(zeroValue (ρ.t 3)).run P w=.ok (.int .i64 0) w
 t4:P.underlying (ρ.t 4)=some .bool
 a4: ∀w,(isAgg (ρ.t 4)).run P w=.ok false w
 z4: ∀w,(Go.sizeOf (ρ.t 4)).run P w=.ok 1 w
 v4: ∀w,(zeroValue (ρ.t 4)).run P w=.ok (.bool false) w
 t5:P.underlying (ρ.t 149)=some (.int .u64)
 a5: ∀w,(isAgg (ρ.t 149)).run P w=.ok false w
 z5: ∀w,(Go.sizeOf (ρ.t 149)).run P w=.ok 1 w
 v5: ∀w,(zeroValue (ρ.t 149)).run P w=.ok (.int .u64 0) w
 t22:P.underlying (ρ.t 23)=some (.slice (ρ.t 42))
 a22: ∀w,(isAgg (ρ.t 23)).run P w=.ok false w
 z22: ∀w,(Go.sizeOf (ρ.t 23)).run P w=.ok 1 w
 v22: ∀w,(zeroValue (ρ.t 23)).run P w=.ok (.slice none 0 0) w
 t25:P.underlying (ρ.t 95)=some (.func #[(ρ.t 42),(ρ.t 42)] #[(ρ.t 3)] false)
 a25: ∀w,(isAgg (ρ.t 95)).run P w=.ok false w
 z25: ∀w,(Go.sizeOf (ρ.t 95)).run P w=.ok 1 w
 v25: ∀w,(zeroValue (ρ.t 95)).run P w=.ok .nilFunc w
 aE: ∀w,(isAgg (ρ.t 42)).run P w=.ok true w
 zE: ∀w,(Go.sizeOf (ρ.t 42)).run P w=.ok k w
theorem swapRange {k:Nat} (L:uj P ρ k) (FG:Bd P ρ 219 Tryz.f219) {enc:α->List Value} {g:Nat} {cb:Array Value} {blk off cap a b m n:Nat} {d0 d:Array α} {w0 w:World} {p x q y s:List α}
  (R:RowK enc k w0 blk off d0) (hn:d0.size=n) (hs:d.size=n) (S:SWK enc k w0 blk off d w) (hl:d.toList=p ++(x ++(q ++(y++s)))) (ha:p.length=a) (hx:x.length=m) (hy:y.length=m) (hb:a+m+q.length=b) (hsz:n<4611686018427387904):
  Calls P (ρ.f 219) #[.slice (some ⟨blk,off,none⟩) n cap,.int .i64 a,.int .i64 b,.int .i64 m,.func (.func g) #[] cb] w fun e w'=>e=.returned (.tuple #[])/\ ∃d',d'.size=n/\SWK enc k w0 blk off d' w'/\d'.toList=p ++(y ++(q ++(x++s))):=by
 have mixed:=L.mixed;have t0:=L.t0;have a0:=L.a0;have z0:=L.z0;have v0:=L.v0;have t3:=L.t3;have a3:=L.a3;have z3:=L.z3;have v3:=L.v3;have t4:=L.t4;have a4:=L.a4;have z4:=L.z4;have v4:=L.v4;have t22:=L.t22;have a22:=L.a22;have z22:=L.z22;have v22:=L.v22;have t25:=L.t25;have a25:=L.a25;have z25:=L.z25;have v25:=L.v25;have aE:=L.aE;have zE:=L.zE
 have u22:=run_underlying L.t22;have hlen:=aeH List.length hl;simp only[afS,adf]at hlen
 have hbn:b+m<=n:=by omega
 have S0:Aside (SWK enc k w0 blk off d w):=S;have HS:=ah hs;have HL:=ah hl;have HA:=ah ha
 have HX:=ah hx;have HY:=ah hy;have HB:=ah hb;have HN:=ah hn;have hab:a+m<=b:=by omega
 clear S hl ha hx hy hb hlen hs hn;obtain⟨nm,tg,ps,rt,-,FX⟩:=FG
 simp only[Tryz.f219,afs,qy,DW,Dj,DV,jD,aeR,afX]at FX;go_enter FX,ae8;go_wp2
 go_loopg [10] m (fun kx s10 wr=> ∃(i:Nat) (dk:Array α),s10=.int .i64 i/\i+kx=m/\dk.size=n/\Aside (SWK enc k w0 blk off dk wr)/\Hid (dk.toList=p ++((y.take i++x.drop i) ++(q ++((x.take i++y.drop i)++s)))))
 case atStart=>exact⟨0,d,rfl,by omega,HS.out,S0,(show d.toList=_ by rw[HL.out];simp)⟩
 clear S0;obtain⟨i,dk,rfl,hk,hds,S1,HD⟩:=hrel;cases gk with
 |zero=>
  obtain rfl:i=m:=by omega
  have hd:_=_:=HD
  rw[ado (show y.length<=i by rw[HY.out];exact ac4 _),ado (show x.length<=i by rw[HX.out];exact ac4 _),aeJ (show y.length<=i by rw[HY.out];exact ac4 _),aeJ (show x.length<=i by rw[HX.out];exact ac4 _),aey,aey]at hd
  have HDF:=ah hd;clear hd;go_wp2
  go_end0
  exact⟨rfl,dk,hds,S1.out,HDF.out⟩
 |succ kq=>
  have him:i<m:=by omega
  have adK:(i:Int)<m:=by omega
  obtain⟨xi,hxi⟩: ∃z,x[i]?=some z:=⟨_,dF (by rw[HX.out];exact him)⟩
  obtain⟨yi,hyi⟩: ∃z,y[i]?=some z:=⟨_,dF (by rw[HY.out];exact him)⟩
  have hxd:x.drop i=xi :: x.drop (i+1):=by rw[aez (by rw[HX.out];exact him)];congr 1;exact ad4 ((dF _).symm.trans hxi)
  have DX:y.drop i=yi :: y.drop (i+1):=by rw[aez (by rw[HY.out];exact him)];congr 1;exact ad4 ((dF _).symm.trans hyi)
  have hxt:x.take (i+1)=x.take i++[xi]:=by rw[ae3,hxi];rfl
  have DY:y.take (i+1)=y.take i++[yi]:=by rw[ae3,hyi];rfl
  have hd:dk.toList=(p++y.take i)++xi ::((x.drop (i+1)++q++x.take i)++yi ::(y.drop (i+1)++s)):=by
   have hd:_=_:=HD;rw[hd,hxd,DX];simp
  obtain⟨ai,hai⟩:=aj (a+i);obtain⟨bi,hbi⟩:=aj (b+i)
  have hl1:(p++y.take i).length=ai:=by rw[adf,HA.out,aeb,HY.out];omega
  have hl2:(p++y.take i).length+1+(x.drop (i+1)++q++x.take i).length=bi:=by
   have h1:=HB.out;rw[hl1];simp only[adf,aeb,aej,HX.out];omega
  have hsw:=(UG hd hl1 hl2).1
  have LH:=ah (show(swp dk ai bi).toList=p ++((y.take (i+1)++x.drop (i+1)) ++(q ++((x.take (i+1)++y.drop (i+1))++s))) by rw[hsw,hxt,DY];simp)
  have ea:((a:Int)+(i:Int)).toNat=ai:=by omega
  have pa:(0:Int)<=(a:Int)+(i:Int):=by omega
  have ba:(a:Int)+(i:Int)<(n:Int):=by omega
  have ra:IntKind.i64.wrap ((a:Int)+(i:Int))=(a:Int)+(i:Int):=by rw[IntKind.wrap_i64];omega
  have eb:((b:Int)+(i:Int)).toNat=bi:=by omega
  have pb:(0:Int)<=(b:Int)+(i:Int):=by omega
  have bb:(b:Int)+(i:Int)<(n:Int):=by omega
  have rb:IntKind.i64.wrap ((b:Int)+(i:Int))=(b:Int)+(i:Int):=by rw[IntKind.wrap_i64];omega
  have anq:ai<n:=by omega
  have anr:bi<n:=by omega
  have S2:Aside (SWK enc k w0 blk off (swp dk ai bi) ((wr.drew.setCells blk (off+ai*k) (enc dk[bi]!)).setCells blk (off+bi*k) (enc dk[ai]!))):=S1.out.swapped R ai bi (by omega) (by omega)
  have la:=S1.out.ld1 R (by rw[HN.out];exact hds) P ai (by omega)
  have lb:=S1.out.ld1 R (by rw[HN.out];exact hds) P bi (by omega)
  have sa:=S1.out.st1 R (by rw[HN.out];exact hds) P ai (by omega) dk[bi]!
  have sb:=S1.out.st2 R (by rw[HN.out];exact hds) P ai bi (by omega) (by omega) dk[bi]! dk[ai]!
  have na:(enc dk[ai]!).length=k:=R.hk _;have nb:(enc dk[bi]!).length=k:=R.hk _
  generalize enc dk[ai]! =cI at S2 la sb na
  generalize enc dk[bi]! =cJ at S2 lb sa sb nb
  have LJ:=ah hk;clear S1 hxi hyi hxd DX hxt DY hd hl1 hl2 hsw HD him hai hbi anq anr hk
  go_wp2_with fail
  go_big_region_o
  clear la lb sa sb
  generalize (wr.drew.setCells blk (off+ai*k) cJ).setCells blk (off+bi*k) cI=w2 at S2⊢
  go_wp2
  go_roundg kq
  case measure=>omega
  exact⟨i+1,swp dk ai bi,by simp,by have:=LJ.out;omega,by rw[size_swp];exact hds,S2,LH.out⟩
theorem rotate {k:Nat} (L:uj P ρ k) (FG:Bd P ρ 219 Tryz.f219) (FR:Bd P ρ 180 Tryz.f180) {enc:α->List Value} {g:Nat} {cb:Array Value} {blk off cap a b m n:Nat} {d0 d:Array α} {w0 w:World} {p x y s:List α}
  (R:RowK enc k w0 blk off d0) (hn:d0.size=n) (hs:d.size=n) (S:SWK enc k w0 blk off d w) (hl:d.toList=p ++(x ++(y++s))) (ha:p.length=a) (hx:a+x.length=m) (hy:m+y.length=b) (hx0:x≠ []) (hy0:y≠ []) (hsz:n<4611686018427387904):
  Calls P (ρ.f 180) #[.slice (some ⟨blk,off,none⟩) n cap,.int .i64 a,.int .i64 m,.int .i64 b,.func (.func g) #[] cb] w fun e w'=>e=.returned (.tuple #[])/\ ∃d',d'.size=n/\SWK enc k w0 blk off d' w'/\d'.toList=p ++(y ++(x++s)):=by
 have mixed:=L.mixed;have t0:=L.t0;have a0:=L.a0;have z0:=L.z0;have v0:=L.v0;have t3:=L.t3;have a3:=L.a3;have z3:=L.z3;have v3:=L.v3;have t4:=L.t4;have a4:=L.a4;have z4:=L.z4;have v4:=L.v4;have t22:=L.t22;have a22:=L.a22;have z22:=L.z22;have v22:=L.v22;have t25:=L.t25;have a25:=L.a25;have z25:=L.z25;have v25:=L.v25;have aE:=L.aE;have zE:=L.zE
 have eF: ∀args w,(callFunc (ρ.f 219) args).run P w=.ok (.enter (ρ.f 219) args) w:=FG.enters rfl
 have hlen:=aeH List.length hl;simp only[afS,adf]at hlen;have hbn:b<=n:=by omega
 have S0:Aside (SWK enc k w0 blk off d w):=S;obtain⟨T,hT⟩:=aj (p ++(y ++(x++s)))
 rw[hT];have hxl:0<x.length:=aeX.2 hx0;have hyl:0<y.length:=aeX.2 hy0
 have H0:=ah (show∃p' X Y s':List α,d.toList=p' ++(X ++(Y++s'))/\p' ++(Y ++(X++s'))=T/\p'.length+X.length=m/\X.length=m - a/\Y.length=b - m/\m+Y.length<=n from⟨p,x,y,s,hl,hT,by omega,by omega,by omega,by omega⟩)
 have h1:0<m - a:=by omega
 have h2:0<b - m:=by omega
 have ham:a<=m:=by omega
 have hmb:m<=b:=by omega
 have i1:(m:Int) -(a:Int)=((m - a:Nat):Int):=by omega
 have i2:(b:Int) -(m:Int)=((b - m:Nat):Int):=by omega
 obtain⟨u0,hu0⟩:=aj (m - a);obtain⟨v0',hv0⟩:=aj (b - m);rw[hu0]at H0 h1 i1
 rw[hv0]at H0 h2 i2;have HS:=ah hs;have HN:=ah hn
 clear S hl ha hx hy hx0 hy0 hlen hs hn hT hxl hyl;obtain⟨nm,tg,ps,rt,-,FX⟩:=FR
 simp only[Tryz.f180,afs,qy,DW,Dj,DV,jD,aeR,afX]at FX;go_enter FX,ae8;go_wp2
 go_loopg [10,11] (u0+v0') (fun kx s10 s11 wr=> ∃(i j:Nat) (dk:Array α),s10=.int .i64 i/\s11=.int .i64 j/\0<i/\0<j/\i+j<=kx/\i<=m/\m+j<=n/\dk.size=n/\Aside (SWK enc k w0 blk off dk wr)/\Hid (∃p' X Y s':List α,dk.toList=p' ++(X ++(Y++s'))/\p' ++(Y ++(X++s'))=T/\p'.length+X.length=m/\X.length=i/\Y.length=j/\m+Y.length<=n))
 case atStart=>exact⟨u0,v0',d,rfl,rfl,h1,h2,ac4 _,by omega,by omega,HS.out,S0,H0⟩
 clear S0 H0 h1 h2 i1 i2;obtain⟨i,j,dk,rfl,rfl,hi0,hj0,hij,him,hjn,hds,S1,HD⟩:=hrel
 obtain⟨p',X,Y,s',hd,hT,hpx,LM,hYl,-⟩:=HD;obtain⟨pi,hpi⟩:=aj (m - i)
 have hp':p'.length=pi:=by omega
 have i3:(m:Int) -(i:Int)=(pi:Int):=by omega
 have r3:IntKind.i64.wrap (pi:Int)=(pi:Int):=by rw[IntKind.wrap_i64];omega
 rcases aqZ i j with hlt|rfl|hlt
 ·obtain⟨ji,hji⟩:=aj (j - i)
  obtain⟨mj,hmj⟩:=aj (m+j - i)
  obtain⟨Y1,Y2,rfl,e1,e2⟩: ∃Y1 Y2,Y=Y1++Y2/\Y1.length=ji/\Y2.length=i:=⟨Y.take ji,Y.drop ji,(aeN ji Y).symm,by rw[aeb];omega,by rw[aej];omega⟩
  have hsw:=swapRange L FG (g:=g) (cb:=cb) (cap:=cap) (a:=pi) (b:=mj) (m:=i) (p:=p') (x:=X) (q:=Y1) (y:=Y2) (s:=s') R HN.out hds S1.out (by rw[hd];simp) hp' LM e2 (by omega) hsz
  have LP:=ah hsw;have t1:((i:Int) !=(j:Int))=true:=by rw[adY];omega
  have t2:decide ((i:Int) >(j:Int))=false:=ac5 (by omega)
  have t3':(i:Int)<=(j:Int):=by omega
  have i4:(m:Int)+(j:Int) -(i:Int)=(mj:Int):=by omega
  have i5:(j:Int) -(i:Int)=(ji:Int):=by omega
  have b4:mj<4611686018427387904:=by omega
  have b5:ji<4611686018427387904:=by omega
  have r4:IntKind.i64.wrap ((m:Int)+(j:Int))=(m:Int)+(j:Int):=by rw[IntKind.wrap_i64];omega
  have HF:=ah (show(p'.length+Y2.length=m/\Y2.length=i/\Y1.length=ji/\m+Y1.length<=n)/\0<i/\0<ji/\i+ji<=gk - 1/\m+ji<=n/\1<=gk from⟨⟨by omega,e2,e1,by omega⟩,by omega,by omega,by omega,by omega,by omega⟩)
  have HT:=ah (show p' ++(Y1 ++(Y2 ++(X++s')))=T by rw[<-hT];simp)
  clear hsw hd hT hpx LM hYl hpi hp' e1 e2 S1 hij hi0 hj0 hlt hji hmj hjn;go_wp2_with fail
  refine LP.mono ?_;rintro e w2 ⟨rfl,d2,hd2,S2,hl2⟩
  have S3:Aside (SWK enc k w0 blk off d2 w2):=S2;have HL2:=ah hl2;clear S2 hl2;go_wp2
  go_roundg (gk - 1)
  case measure=>have:=HF.out;omega
  obtain⟨h1,h2,h3,h4,h5,-⟩:=HF.out
  exact⟨i,ji,d2,rfl,rfl,h2,h3,h4,him,h5,hd2,S3,⟨p',Y2,Y1,X++s',by rw[HL2.out],HT.out,h1⟩⟩
 ·have hsw:=swapRange L FG (g:=g) (cb:=cb) (cap:=cap) (a:=pi) (b:=m) (m:=i) (p:=p') (x:=X) (q:=[]) (y:=Y) (s:=s') R HN.out hds S1.out (by rw[hd];simp) hp' LM hYl (by simp;omega) hsz
  rw[show p' ++(Y ++([] ++(X++s')))=T by rw[<-hT];simp]at hsw
  have LP:=ah hsw;have t1:((i:Int) !=(i:Int))=false:=by rw[bne_self_eq_false]
  clear hsw hd hT hpx LM hYl hpi hp' S1 hij hi0 hj0;go_wp2_with fail;refine LP.mono ?_
  rintro e w2 ⟨rfl,d2,hd2,S2,hl2⟩;have S3:Aside (SWK enc k w0 blk off d2 w2):=S2
  have HL2:=ah hl2;clear S2 hl2;go_wp2
  go_end0
  exact⟨rfl,d2,hd2,S3.out,HL2.out⟩
 obtain⟨ij,hji⟩:=aj (i - j)
 obtain⟨X1,X2,rfl,e1,e2⟩: ∃X1 X2,X=X1++X2/\X1.length=j/\X2.length=ij:=⟨X.take j,X.drop j,(aeN j X).symm,by rw[aeb];omega,by rw[aej];omega⟩
 have hsw:=swapRange L FG (g:=g) (cb:=cb) (cap:=cap) (a:=pi) (b:=m) (m:=j) (p:=p') (x:=X1) (q:=X2) (y:=Y) (s:=s') R HN.out hds S1.out (by rw[hd];simp) hp' e1 hYl (by omega) hsz
 have LP:=ah hsw;have t1:((i:Int) !=(j:Int))=true:=by rw[adY];omega
 have t2:decide ((i:Int) >(j:Int))=true:=adb (by omega)
 have t3':(j:Int)<(i:Int):=by omega
 have i5:(i:Int) -(j:Int)=(ij:Int):=by omega
 have b5:ij<4611686018427387904:=by omega
 rw[adf]at hpx
 have HF:=ah (show((p' ++ Y).length+X2.length=m/\X2.length=ij/\X1.length=j/\m+X1.length<=n)/\0<ij/\0<j/\ij+j<=gk - 1/\m+j<=n/\1<=gk/\ij<=m from⟨⟨by rw[adf];omega,e2,e1,by omega⟩,by omega,by omega,by omega,by omega,by omega,by omega⟩)
 have HT:=ah (show(p' ++ Y) ++(X1 ++(X2++s'))=T by rw[<-hT];simp)
 clear hsw hd hT hpx LM hYl hpi hp' e1 e2 S1 hij hi0 hj0 hlt hji hjn;go_wp2_with fail
 refine LP.mono ?_;rintro e w2 ⟨rfl,d2,hd2,S2,hl2⟩
 have S3:Aside (SWK enc k w0 blk off d2 w2):=S2;have HL2:=ah hl2;clear S2 hl2;go_wp2
 go_roundg (gk - 1)
 case measure=>have:=HF.out;omega
 obtain⟨h1,h2,h3,h4,h5,-,h6⟩:=HF.out
 exact⟨ij,j,d2,rfl,rfl,h2,h3,h4,h6,h5,hd2,S3,⟨p' ++ Y,X2,X1,s',by rw[HL2.out];simp,HT.out,h1⟩⟩
def ren (ρ:Ren):Ren:=⟨fun _=>ρ.f 135,fun t=>if t=0 then ρ.t 0 else if t=3 then ρ.t 3 else if t=4 then ρ.t 4 else if t=22 then ρ.t 23 else if t=24 then ρ.t 42 else ρ.t 95,fun g=>g⟩
theorem uj.ins {k:Nat} (L:uj P ρ k) (FI:Bears P (ρ.f 135) (SlBodyF.n20 (ren ρ))):SlLaysF0.n20 P (ren ρ):=
 ⟨L.mixed,FI,L.t0,L.a0,L.z0,L.v0,L.t3,L.a3,L.z3,L.v3,L.t4,L.a4,L.z4,L.v4,L.t22,L.a22,L.z22,L.v22,L.t25,L.a25,L.z25,L.v25⟩
theorem insertion {k:Nat} (L:uj P ρ k) (FI:Bears P (ρ.f 135) (SlBodyF.n20 (ren ρ))) {le:α->α->Bool} (hT:Tot le) {enc:α->List Value} {cf:α->α->Int} (hcf: ∀x y,ltOf cf x y= !le y x) {g:Nat} {cb:Array Value} (eg: ∀args w,(callFunc g args).run P w=.ok (.enter g args) w)
  {blk off cap a b n:Nat} {d0 d:Array α} {w0 w:World} {p x s:List α} (hC:CmpLays P g cb enc k cf blk off n w0) (R:RowK enc k w0 blk off d0) (hn:d0.size=n) (hs:d.size=n) (S:SWK enc k w0 blk off d w) (hl:d.toList=p ++(x++s)) (ha:p.length=a) (hx:a+x.length=b) (hsz:n<4611686018427387904):
  Calls P (ρ.f 135) #[.slice (some ⟨blk,off,none⟩) n cap,.int .i64 a,.int .i64 b,.func (.func g) #[] cb] w fun e w'=>e=.returned (.tuple #[])/\ ∃d' x',d'.size=n/\SWK enc k w0 blk off d' w'/\d'.toList=p ++(x' ++ s)/\bJ le x'/\x'.Perm x:=by
 have hlen:=aeH List.length hl;simp only[afS,adf]at hlen;obtain⟨q,os,hw⟩:=id S
 have hH:HoldsK enc k w blk off d:=S.holds R.hblk R.hH (hs.trans hn.symm)
 have hC':CmpLays P g cb enc k cf blk off d.size w:=fun m os' dk hd x y=>by
  obtain⟨m2,os2,e⟩:=S.on R.hblk m dk os' (by rw[hd])
  rw[e];exact hC m2 os2 dk (by omega) x y
 have h:=AnyQ.insertionSortCmpFunc (L.ins FI) k L.aE L.zE enc R.hk R.h1 cf g cb blk off cap a b d w eg hC' hH (S.lt R.hblk) (by omega) (by omega) (by omega)
 rw[hs]at h
 have hi:=insertionSort_holds (lt:=ltOf cf) (ajZ hT hcf) d a b (by omega) (by omega)
 refine h.mono ?_;rintro e w' ⟨rfl,m,os',rfl⟩
 obtain⟨x',h1,h2,h3⟩:=aj0 hi.1 hi.2 hcf hl ha hx
 exact⟨rfl,_,x',by rw[hi.1.1,hs],S.on R.hblk m _ os' hi.1.1,h1,h2,h3⟩
end Go.Proofs.YtkdakckjafomhaaGreatDoor.pz
