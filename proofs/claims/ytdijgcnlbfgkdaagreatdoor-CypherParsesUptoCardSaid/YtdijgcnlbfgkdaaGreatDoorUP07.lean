/- Lemmas. -/
import Derived.Test.YtdijgcnlbfgkdaaGreatDoorUP06
import Derived.Deep.RegionLaw
set_option maxHeartbeats 64000000
set_option maxRecDepth 1000000
set_option linter.all false
namespace Go.Proofs.YtdijgcnlbfgkdaaGreatDoor
open Go.RowKit Go.Proofs.Tryz
def aiU (l:List UInt8):Lib.trimPrefix l [45]=Lex.Dv l:=Pz l
def aa1 (b:Nat) (h:b<18446744073709551616):IntKind.i64.wrap (b:Int)=Lex.int64 b:=by
 rw[asy];unfold Lex.int64
 split<;>omega
def aa2 {l:List UInt8} {b:Nat} (h:Num.parse l=some b):b<18446744073709551616:=(Num.TR h).2.1
def DF {w w1:World} (kk:Int) (i j:Nat) (hb:Below ((w.alloc (.cells #[.int .i64 0,.string ⟨#[]⟩,.int .i64 0,.int .i64 0,.int .i64 0,.int .i64 0] 156)).alloc (.cells #[.int .i64 kk,.string ⟨#[]⟩,.int .i64 0,.int .i64 i,.int .i64 j,.int .i64 0] 156)).heap.size ((w.alloc (.cells #[.int .i64 0,.string ⟨#[]⟩,.int .i64 0,.int .i64 0,.int .i64 0,.int .i64 0] 156)).alloc (.cells #[.int .i64 kk,.string ⟨#[]⟩,.int .i64 0,.int .i64 i,.int .i64 j,.int .i64 0] 156)) w1):
  ak w1 w.heap.size 156 #[.int .i64 0,.string ⟨#[]⟩,.int .i64 0,.int .i64 0,.int .i64 0,.int .i64 0]/\ak w1 (w.heap.size+1) 156 #[.int .i64 kk,.string ⟨#[]⟩,.int .i64 0,.int .i64 i,.int .i64 j,.int .i64 0]:=by
 have h1:=(ak.new w 156 #[.int .i64 0,.string ⟨#[]⟩,.int .i64 0,.int .i64 0,.int .i64 0,.int .i64 0]).alloc (.cells #[.int .i64 kk,.string ⟨#[]⟩,.int .i64 0,.int .i64 i,.int .i64 j,.int .i64 0] 156);have h2:=ak.new (w.alloc (.cells #[.int .i64 0,.string ⟨#[]⟩,.int .i64 0,.int .i64 0,.int .i64 0,.int .i64 0] 156)) 156 #[.int .i64 kk,.string ⟨#[]⟩,.int .i64 0,.int .i64 i,.int .i64 j,.int .i64 0];rw[asB]at h2;exact⟨h1.below hb h1.lt,h2.below hb h2.lt⟩
def aiV (s:ByteArray) (i:Nat) (w:World) (hs:s.size<=1073741824) (hi:i<s.size) (hL:Laid w):
  Calls prog 136 #[.string s,.int .i64 i] w (xZ (Lex.nY ((s.data.toList.drop i).take (1+Lex.run Lex.iY (s.data.toList.drop (i+1))))) i w):=by
 have hr:=fun(W:World)=>aiJ s (i+1) W hs hi
 have hl:=Lex.Dw Lex.iY (s.data.toList.drop (i+1));rw[ae1,<-aof]at hl;obtain⟨n,hn⟩:=aj (Lex.run Lex.iY (s.data.toList.drop (i+1)));rw[hn]at hr hl⊢;obtain⟨z,hz⟩:=aj (s.extract i (i+(1+n)));have hzl:z.data.toList=(s.data.toList.drop i).take (1+n):=by rw[<-hz,DC]
 have LP:z.data.toList.length=1+n:=by rw[hzl,afo,ae1,<-aof];omega
 rw[<-hzl];obtain⟨j,hj⟩:=aj (i+(1+n));rw[hj]at hz;rw[show i+1+n=j by omega,show((i+1:Nat):Int)=(i:Int)+1 by omega]at hr
 have hjs:j<=s.size:=by omega
 have hij:i<=j:=by omega
 have ji:(j:Int)<=1073741824:=by omega
 have ii:(i:Int)<=1073741824:=by omega
 have hzs:z.size<=1073741824:=by rw[aof,LP];omega
 have hpf:=fun(W:World) (hb:Below w.heap.size w W)=>aiS z W hzs (hL.below hb)
 have hpi:=fun(W:World) (hb:Below w.heap.size w W)=>aaD z W hzs (hL.below hb)
 have htr:=fun(W:World)=>(Tryz.strings_TrimPrefix z ⟨#[45]⟩ W).mono fun e w' (h:_/\w'=W)=>(⟨h.1,h.2.symm⟩:_/\W=w')
 have e45:(⟨#[45]⟩:ByteArray).data.toList=[45]:=rfl;rw[e45,aiU]at htr;obtain⟨y,hy⟩:=aj (⟨(Lex.Dv z.data.toList).toArray⟩:ByteArray);have QJ:=fun(W:World)=>(Tryz.strings_HasPrefix y ⟨#[48,120]⟩ W).mono fun e w' (h:_/\w'=W)=>(⟨h.1,h.2.symm⟩:_/\W=w')
 have e0x:(⟨#[48,120]⟩:ByteArray).data.toList=[48,120]:=rfl;have wY:y.data.toList=Lex.Dv z.data.toList:=by rw[<-hy]
 rw[e0x,wY]at QJ;rw[hy]at htr;obtain⟨v,hv⟩:=aj (Lib.hasPrefix (Lex.Dv z.data.toList) [48,120]);rw[hv]at QJ;obtain⟨zn,hzn⟩:=aj z.data.toList.length;have hzj:i+zn=j:=by omega
 have hbase:=fun(kk:Int)=>(show Below w.heap.size w ((w.alloc (.cells #[.int .i64 0,.string ⟨#[]⟩,.int .i64 0,.int .i64 0,.int .i64 0,.int .i64 0] 156)).alloc (.cells #[.int .i64 kk,.string ⟨#[]⟩,.int .i64 0,.int .i64 i,.int .i64 j,.int .i64 0] 156)) from((aoa _ _).alloc (aej _) _).alloc (by simp) _)
 refine gq7 hr hpf hpi htr QJ hzj hbase fun HR jy rP Jj yG LQ gy=>?_;have hfl:=fun(a b:Int) (W:World)=>IE a b W
 have Ad:=ah hfl;clear hr hpf hpi htr QJ hy wY e45 e0x LP hzl hj hn hL hzj hbase hl hfl;cases v with
 |true=>
  have hnt:Lex.nY z.data.toList=match Num.parse z.data.toList with|some b=> .tok 3 [] (Lex.int64 b) z.data.toList.length|none=> .err 0 52:=by
   unfold Lex.nY;rw[aeu hv];cases Num.parse z.data.toList<;>rfl
  rw[hnt,hzn];clear hv hnt;cases hp:Num.parse z.data.toList with
  |some b=>
   show Calls _ _ _ _ (xZ (.tok 3 [] (Lex.int64 b) zn) i w)
   have hwr:=aa1 b (aa2 hp);have hcall:=jy.out;rw[hp]at hcall;have HC:=ah hcall;obtain⟨q,hq⟩:=aj (Lex.int64 b);rw[hq]at hwr⊢
   have ht:kC (.tok 3 [] q zn) i=.agg #[.int .i64 3,.string ⟨#[]⟩,.int .i64 q,.int .i64 i,.int .i64 j,.int .i64 0]:=by
    simp only[kC,LQ.out];rfl
   have HT:=ah ht;clear hcall hp hq jy rP ht;go_enter func136,ntmps136;go_wp2_with fail;refine iq7 (HR.out _) ?_;go_wp2_with fail;refine iq7 (Jj.out _) ?_;go_wp2_with fail;refine iq7 (yG.out _) ?_;go_wp2_with fail;refine mq7 (HC.out _ (gy.out _)) fun w1 hb=>?_;have hz:w.heap.size+1<w1.heap.size:=by have:=hb.size;simp at this;omega
   refine gq3 ((gy.out _).trans (hb.mono (gy.out _).size)) (DF 0 i j hb).1 (DF 0 i j hb).2 fun HB HK HT1=>?_;obtain⟨g0,g1,g2,g3,g4,g5,f0,f1,f2,f3,f4,f5⟩:=kU HK.out;obtain⟨k0,k1,k2,k3,k4,k5,e0,e1,e2,e3,e4,e5⟩:=kU HT1.out;clear hb;go_wp2;exact uq results136 rfl ((((HK.far (by simp) _).far (by simp) _).far (by simp) _)) (((HB.setCell (by simp) _).setCell (by simp) _).setCell (by simp) _) HT.out
  |none=>
   show Calls _ _ _ _ (xZ (.err 0 52) i w)
   have hcall:=jy.out;rw[hp]at hcall;have HC:=ah hcall
   have ht:kC (.err 0 52) i=.agg #[.int .i64 0,.string ⟨#[]⟩,.int .i64 0,.int .i64 i,.int .i64 0,.int .i64 52]:=by
    simp only[kC,agw];rfl
   have HT:=ah ht;clear hcall hp jy rP ht;go_enter func136,ntmps136;go_wp2_with fail;refine iq7 (HR.out _) ?_;go_wp2_with fail;refine iq7 (Jj.out _) ?_;go_wp2_with fail;refine iq7 (yG.out _) ?_;go_wp2_with fail;refine mq7 (HC.out _ (gy.out _)) fun w1 hb=>?_;have hz:w.heap.size+1<w1.heap.size:=by have:=hb.size;simp at this;omega
   refine gq3 ((gy.out _).trans (hb.mono (gy.out _).size)) (DF 0 i j hb).1 (DF 0 i j hb).2 fun HB HK HT1=>?_;obtain⟨g0,g1,g2,g3,g4,g5,f0,f1,f2,f3,f4,f5⟩:=kU HK.out;obtain⟨k0,k1,k2,k3,k4,k5,e0,e1,e2,e3,e4,e5⟩:=kU HT1.out;clear hb;go_wp2_with fail;refine mq7 (Ad.out _ _ _) fun w2 hb2=>?_;have hz2:w.heap.size+1<w2.heap.size:=by have:=hb2.size;simp at this;omega
   have aP:=ah (ak.below (((HK.far (by simp) _).far (by simp) _).far (by simp) _) hb2 (by simp;omega))
   clear g0 g1 g2 g3 g4 g5 f0 f1 f2 f3 f4 f5 k0 k1 k2 k3 k4 k5 e0 e1 e2 e3 e4 e5;obtain⟨g0,g1,g2,g3,g4,g5,f0,f1,f2,f3,f4,f5⟩:=kU aP.out;have HB2:=ah (ati (((HB.setCell (by simp) _).setCell (by simp) _).setCell (by simp) _) (hb2.mono (by simp;omega)))
   clear hb2;go_wp2;exact uq results136 rfl aP.out HB2.out HT.out
 |false=>
  have hnt:Lex.nY z.data.toList=if(Num.dM z.data.toList).2=0 then .tok 2 [] (Num.dM z.data.toList).1 z.data.toList.length else .err 0 (Num.dM z.data.toList).2:=by
   unfold Lex.nY;rw[aer (by rw[hv];decide)]
  rw[hnt,hzn];clear hv hnt;obtain⟨x,hx⟩:=aj (Num.dM z.data.toList);have hcall:=rP.out;rw[hx]at hcall⊢;obtain⟨q,k⟩:=x;have HC:=ah hcall;by_cases hk:k=0
  ·subst hk
   rw[aeu rfl]
   have ht:kC (.tok 2 [] q zn) i=.agg #[.int .i64 2,.string ⟨#[]⟩,.int .i64 q,.int .i64 i,.int .i64 j,.int .i64 0]:=by
    simp only[kC,LQ.out];rfl
   have HT:=ah ht;clear hcall hx jy rP ht;go_enter func136,ntmps136;go_wp2_with fail;refine iq7 (HR.out _) ?_;go_wp2_with fail;refine iq7 (Jj.out _) ?_;go_wp2_with fail;refine iq7 (yG.out _) ?_;go_wp2_with fail;refine mq7 (HC.out _ (gy.out _)) fun w1 hb=>?_;have hz:w.heap.size+1<w1.heap.size:=by have:=hb.size;simp at this;omega
   refine gq3 ((gy.out _).trans (hb.mono (gy.out _).size)) (DF 2 i j hb).1 (DF 2 i j hb).2 fun HB HK HT1=>?_;obtain⟨g0,g1,g2,g3,g4,g5,f0,f1,f2,f3,f4,f5⟩:=kU HK.out;obtain⟨k0,k1,k2,k3,k4,k5,e0,e1,e2,e3,e4,e5⟩:=kU HT1.out;clear hb;go_wp2;exact uq results136 rfl (((HK.far (by simp) _).far (by simp) _)) ((HB.setCell (by simp) _).setCell (by simp) _) HT.out
  rw[aer hk]
  have ht:kC (.err 0 k) i=.agg #[.int .i64 0,.string ⟨#[]⟩,.int .i64 0,.int .i64 i,.int .i64 0,.int .i64 k]:=by
   simp only[kC,agw]
  have HT:=ah ht;have hk1:((k:Int) !=0)=true:=by rw[afd];omega
  clear hcall hx jy rP ht;go_enter func136,ntmps136;go_wp2_with fail;refine iq7 (HR.out _) ?_;go_wp2_with fail;refine iq7 (Jj.out _) ?_;go_wp2_with fail;refine iq7 (yG.out _) ?_;go_wp2_with fail;refine mq7 (HC.out _ (gy.out _)) fun w1 hb=>?_;have hz:w.heap.size+1<w1.heap.size:=by have:=hb.size;simp at this;omega
  refine gq3 ((gy.out _).trans (hb.mono (gy.out _).size)) (DF 2 i j hb).1 (DF 2 i j hb).2 fun HB HK HT1=>?_;obtain⟨g0,g1,g2,g3,g4,g5,f0,f1,f2,f3,f4,f5⟩:=kU HK.out;obtain⟨k0,k1,k2,k3,k4,k5,e0,e1,e2,e3,e4,e5⟩:=kU HT1.out;clear hb;go_wp2_with fail;refine mq7 (Ad.out _ _ _) fun w2 hb2=>?_;have hz2:w.heap.size+1<w2.heap.size:=by have:=hb2.size;simp at this;omega
  have aP:=ah (ak.below ((HK.far (by simp) _).far (by simp) _) hb2 (by simp;omega))
  clear g0 g1 g2 g3 g4 g5 f0 f1 f2 f3 f4 f5 k0 k1 k2 k3 k4 k5 e0 e1 e2 e3 e4 e5;obtain⟨g0,g1,g2,g3,g4,g5,f0,f1,f2,f3,f4,f5⟩:=kU aP.out;have HB2:=ah (ati ((HB.setCell (by simp) _).setCell (by simp) _) (hb2.mono (by simp;omega)))
  clear hb2;go_wp2;exact uq results136 rfl aP.out HB2.out HT.out
def PY (b off j:Nat):(⟨b,off,none⟩:Addr).add j=⟨b,off+j,none⟩:=by
 unfold Addr.add
 split<;>simp_all
section
variable {P:Program} (w:World)
def aiW (base:Nat) (t ty e:TypeId) (i:TypeInfo) (size:Nat) (ht:P.underlying t=some (.slice e)) (hi:P.info? e=some i)
  (v:Value) (n:Nat) (xs:List Value) (hown:w.ownsRow base e size v n xs) (c:Nat):(Builtin.append_ #[t,t] ty #[v,.slice none 0 c]).run P w=.ok v w:=by
 rcases hown.2 with⟨rfl,rfl⟩|⟨g,cap,cur,rfl,_,_,hnc,_⟩
 ·simp[Builtin.append_,atp ht,sizeOf,typeInfo,hi,Builtin.lenOf,Builtin.firstCells]
 simp[Builtin.append_,atp ht,sizeOf,typeInfo,hi,Builtin.lenOf,Builtin.firstCells,hnc,storeCells]
def aiX (base:Nat) (t ty e:TypeId) (i:TypeInfo) (z:Value) (size bytes:Nat) (ht:P.underlying t=some (.slice e)) (hi:P.info? e=some i) (hz:i.zero=some z)
  (hsize:i.size=size) (hby:i.bytes=bytes) (hzs:z.cells.size=size) (hsz:0<size)
  (v:Value) (n:Nat) (xs:List Value) (hown:w.ownsRow base e size v n xs)
  (B:Nat) (A:Option Addr) (m c:Nat) (news:List Value) (hr:Reads w B size A m news) (h1: ∀u∈news,u.oneCell'=true)
  (h63:n+m<=maxLen) (hbytes:(n+m)*bytes<=140737488355328) (hbase:base<=w.heap.size):
  ∃v' w',(Builtin.append_ #[t,t] ty #[v,.slice A m c]).run P w=.ok v' w'/\w'.ownsRow base e size v' (n+m) (xs++news)/\w.grownBy w' v.ownBlock/\
   (v'.ownBlock=v.ownBlock\/v'.ownBlock=some w.heap.size):=by
 rcases A with _|ad
 ·have hm:m=0:=by
   rcases afY m with h0|h0
   ·exact h0
   obtain⟨_,_,h,_⟩:=hr.2 h0;cases h
  subst hm;have hn:news=[]:=aeI (by simpa using hr.1)
  subst hn;exact⟨v,w,aiW w base t ty e i size ht hi v n xs hown c,by simpa using hown,World.grownBy.refl w _,.inl rfl⟩
 have hcells: ∀j u,news[j]?=some u->w.cell? (ad.add j)=some u:=by
  intro j u hu
  rcases afY m with h0|h0
  ·subst h0
   have hn:news=[]:=aeI (by simpa using hr.1)
   subst hn;simp at hu
  obtain⟨b',off',h,_,hc⟩:=hr.2 h0;cases h;rw[PY];exact hc j u hu
 obtain⟨v',w',hrun,h2,h3,_,h5⟩:=atq (P:=P) w base t ty e i z size bytes ht hi hz hsize hby hzs hsz v n xs hown ad m c news hr.1 hcells h1 h63 hbytes hbase;exact⟨v',w',hrun,h2,h3,h5⟩
def aiY {o:Oper} {a:Act} {K:Act->World->Prop} {Q:Exit->Act->World->Prop} (s x:Operand) (t:TypeId)
  (ho:o.op=.call {callee:=.builtin .append,args:= #[s,x],argTypes:= #[t,t]})
  (base:Nat) (e:TypeId) (i:TypeInfo) (z:Value) (size bytes:Nat) (ht:P.underlying t=some (.slice e)) (hi:P.info? e=some i) (hz:i.zero=some z)
  (hsize:i.size=size) (hby:i.bytes=bytes) (hzs:z.cells.size=size) (hsz:0<size)
  (v:Value) (n:Nat) (xs:List Value) (hs:a.eval s=v) (hown:w.ownsRow base e size v n xs)
  (B:Nat) (A:Option Addr) (m c:Nat) (news:List Value) (hx:a.eval x=.slice A m c) (hr:Reads w B size A m news) (h1: ∀u∈news,u.oneCell'=true)
  (h63:n+m<=maxLen) (hbytes:(n+m)*bytes<=140737488355328) (hbase:base<=w.heap.size)
  (h: ∀v' w',w'.ownsRow base e size v' (n+m) (xs++news)->w.grownBy w' v.ownBlock->(v'.ownBlock=v.ownBlock\/v'.ownBlock=some w.heap.size)->K (a.put o.dst v') w'):o.wp P a w K Q:=by
 obtain⟨v',w',hrun,h2,h3,h4⟩:=aiX (P:=P) w base t o.type e i z size bytes ht hi hz hsize hby hzs hsz v n xs hown B A m c news hr h1 h63 hbytes hbase;unfold Oper.wp execOp;simp only[ho,resolve,invoke,builtin,Sem.run_bind,Sem.run_pure,atr,arh,agQ,ahr,hs,hx,hrun];exact h v' w' h2 h3 h4
def DI {ops:Array Oper} {rest:List Oper} {o:Oper} {a:Act} {Q:Exit->Act->World->Prop} (hgd:o.guard=none) (s x:Operand) (t:TypeId)
  (ho:o.op=.call {callee:=.builtin .append,args:= #[s,x],argTypes:= #[t,t]})
  (base:Nat) (e:TypeId) (i:TypeInfo) (z:Value) (size bytes:Nat) (ht:P.underlying t=some (.slice e)) (hi:P.info? e=some i) (hz:i.zero=some z)
  (hsize:i.size=size) (hby:i.bytes=bytes) (hzs:z.cells.size=size) (hsz:0<size)
  (v:Value) (n:Nat) (xs:List Value) (hs:a.eval s=v) (hown:w.ownsRow base e size v n xs)
  (B:Nat) (A:Option Addr) (m c:Nat) (news:List Value) (hx:a.eval x=.slice A m c) (hr:Reads w B size A m news) (h1: ∀u∈news,u.oneCell'=true)
  (h63:n+m<=maxLen) (hbytes:(n+m)*bytes<=140737488355328) (hbase:base<=w.heap.size)
  (h: ∀v' w',w'.ownsRow base e size v' (n+m) (xs++news)->w.grownBy w' v.ownBlock->(v'.ownBlock=v.ownBlock\/v'.ownBlock=some w.heap.size)->wpList P ops Q rest (a.put o.dst v') w'):wpList P ops Q (o :: rest) a w:=
 wpList_plain hgd fun _ hK=>aiY w s x t ho base e i z size bytes ht hi hz hsize hby hzs hsz v n xs hs hown B A m c news hx hr h1 h63 hbytes hbase fun v' w' h2 h3 h4=>hK _ _ (h v' w' h2 h3 h4)
end
def aiZ (w:World) (base e _cap:Nat) (cs:Array Value) (hb:base<=w.heap.size) (h:cs.size=0):(w.alloc (.cells cs e)).ownsRow base e 1 (.slice (some ⟨w.heap.size,0,none⟩) 0 0) 0 []:=
 World.ownsRow_made w cs 0 hb (by unfold maxLen;omega) (by omega)
end Go.Proofs.YtdijgcnlbfgkdaaGreatDoor
namespace Go.Proofs.YtdijgcnlbfgkdaaGreatDoor
open Go.RowKit Go.Proofs.Tryz
def ai0:(prog.info? 5).map (fun i=>(i.zero,i.size,i.bytes))=some (some (.int .u8 0),1,1):=by kernel_rfl
def OwnB (B:Nat) (v:Value) (l:List UInt8) (w:World):Prop:=w.ownsRow B 5 1 v l.length (Lib.byteCells l)
def byteCells_one (x:UInt8):Lib.byteCells [x]=[.int .u8 (x.toNat:Int)]:=by simp[Lib.byteCells]
def aa3 (a b:List UInt8):Lib.byteCells (a++b)=Lib.byteCells a++Lib.byteCells b:=by simp[Lib.byteCells]
def OwnB.conv {B:Nat} {v:Value} {l:List UInt8} {w:World} (h:OwnB B v l w):(convert 76 9 v).run prog w=.ok (.string ⟨l.toArray⟩) w:=by
 rcases h.2 with⟨rfl,hn⟩|⟨g,cap,cur,rfl,hb,hg,h1,h2,h3⟩
 ·have:l=[]:=aeI hn
  subst this;exact run_convert_bytes_nil w 76 5 asK asT 0 0 9 asa
 refine run_convert_bytes_back (P:=prog) w 76 9 5 ⟨g,0,none⟩ cap l asK asT asa (fun j hj=> ?_)
 have hr:=Reads.dZ (c:=cap) h;obtain⟨b',off',u,e,_,hu,hc⟩:=hr.at_ (k:=j) hj;cases e;rw[PY];rw[hc,<-hu];simp[Lib.byteCells,aen hj]
def OwnB.form {B:Nat} {v:Value} {l:List UInt8} {w:World} (h:OwnB B v l w): ∃A c,v=.slice A l.length c:=aH h
def FH {ops:Array Oper} {rest:List Oper} {o:Oper} {a:Act} {Q:Exit->Act->World->Prop} (hgd:o.guard=none) (s x:Operand)
  (ho:o.op=.call {callee:=.builtin .append,args:= #[s,x],argTypes:= #[76,76]})
  (B:Nat) (v:Value) (l:List UInt8) (W:World) (hs:a.eval s=v) (h:OwnB B v l W) (bs:List UInt8) (us:List Value) (hu:us=Lib.byteCells bs) (m:Nat) (hm:bs.length=m)
  (hx:a.eval x=.slice (some ⟨W.heap.size,0,none⟩) m m) (hl:l.length<1073741824) (hm2:m<1073741824) (hB:B<=W.heap.size)
  (k: ∀v' w',OwnB B v' (l++bs) w'->W.grownBy w' v.ownBlock->Below B W w'->wpList prog ops Q rest (a.put o.dst v') w'):
  wpList prog ops Q (o :: rest) a (W.alloc (.cells us.toArray 5)):=by
 obtain⟨i0,hi,hz0,hz1,hz2⟩:=asM ai0;subst hu;refine wpList_append_own _ hgd s x 76 ho B 5 i0 (.int .u8 0) 1 1 asK hi hz0 hz1 hz2 rfl (by decide) v l.length (Lib.byteCells l) hs (asi h _) ⟨W.heap.size,0,none⟩ m m (Lib.byteCells bs) hx ?c0 ?c1 ?c2 ?c3 ?c4 ?c5 ?_
 case c0=>simp[Lib.byteCells,hm]
 case c1=>
  intro j u hj;rw[PY];have:=(ak.new W 5 (Lib.byteCells bs).toArray).cell (0+j);rw[this]
  simpa using hj
 case c2=>intro u hu;simp only[Lib.byteCells,ant]at hu;obtain⟨_,_,rfl⟩:=hu;rfl
 case c3=>unfold maxLen;omega
 case c4=>omega
 case c5=>simp;omega
 intro v' w' hown hgr _;refine k v' w' ?_ ?_ ?_
 ·unfold OwnB
  rw[aa3,aeo,hm];exact hown
 ·exact aS (Bj (iw W _) _) hgr
 exact((aoa B W).alloc hB _).grown hgr (by simp;omega) (fun j e=>(ar5 h j e).1)
def jD {ops:Array Oper} {rest:List Oper} {o:Oper} {a:Act} {Q:Exit->Act->World->Prop} (hgd:o.guard=none) (s x:Operand) (T e:TypeId) (z:Value) (bytes:Nat)
  (hT:prog.underlying T=some (.slice e)) (hinfo:(prog.info? e).map (fun i=>(i.zero,i.size,i.bytes))=some (some z,1,bytes)) (hz:z.cells.size=1) (hby:bytes<=24)
  (ho:o.op=.call {callee:=.builtin .append,args:= #[s,x],argTypes:= #[T,T]})
  (B:Nat) (v:Value) (n:Nat) (xs:List Value) (W:World) (hs:a.eval s=v) (h:W.ownsRow B e 1 v n xs) (u:Value) (hu:u.oneCell'=true)
  (hx:a.eval x=.slice (some ⟨W.heap.size,0,none⟩) 1 1) (hl:n<1073741824) (hB:B<=W.heap.size)
  (k: ∀v' w',w'.ownsRow B e 1 v' (n+1) (xs++[u])->W.grownBy w' v.ownBlock->(v'.ownBlock=v.ownBlock\/ ∃g,v'.ownBlock=some g/\W.heap.size<=g)->Below B W w'->wpList prog ops Q rest (a.put o.dst v') w'):
  wpList prog ops Q (o :: rest) a (W.alloc (.cells #[u] e)):=by
 obtain⟨i0,hi,hz0,hz1,hz2⟩:=asM hinfo;refine wpList_append_own_at _ hgd s x T ho B e i0 z 1 bytes hT hi hz0 hz1 hz2 hz (by decide) v n xs hs (asi h _) ⟨W.heap.size,0,none⟩ 1 1 [u] hx rfl ?c1 ?c2 ?c3 ?c4 ?c5 ?_
 case c1=>exact cell_one_new _ _ _
 case c2=>intro y hy;rw[afm.1 hy];exact hu
 case c3=>unfold maxLen;omega
 case c4=>
  have:(n+1)*bytes<=1073741824*24:=aoL (by omega) hby
  omega
 case c5=>simp;omega
 intro v' w' hown hgr _ hwh;refine k v' w' hown (aS (Bj (iw W _) _) hgr) (hwh.imp id (fun h=>⟨_,h,by simp⟩)) ?_
 exact((aoa B W).alloc hB _).grown hgr (by simp;omega) (fun j e=>(ar5 h j e).1)
def aa4 (w:World) (xs:List Value) (t:TypeId): ∀(j:Nat) u,xs[j]?=some u->(w.alloc (.cells xs.toArray t)).cell? ((⟨w.heap.size,0,none⟩:Addr).add j)=some u:=by
 intro j u h;rw[PY,agO];have:=(ak.new w t xs.toArray).cell j;rw[this]
 simpa using h
def DJ {ops:Array Oper} {rest:List Oper} {o:Oper} {a:Act} {Q:Exit->Act->World->Prop} (hgd:o.guard=none) (s x:Operand) (T e:TypeId) (z:Value) (sz bytes:Nat)
  (hT:prog.underlying T=some (.slice e)) (hinfo:(prog.info? e).map (fun i=>(i.zero,i.size,i.bytes))=some (some z,sz,bytes)) (hz:z.cells.size=sz) (hsz:0<sz) (hby:bytes<=200)
  (ho:o.op=.call {callee:=.builtin .append,args:= #[s,x],argTypes:= #[T,T]})
  (B:Nat) (v:Value) (n:Nat) (xs:List Value) (W:World) (hs:a.eval s=v) (h:W.ownsRow B e sz v n xs) (news:List Value) (cs:Array Value) (hcs:cs=news.toArray) (hnl:news.length=sz) (hu: ∀u∈news,u.oneCell'=true)
  (hx:a.eval x=.slice (some ⟨W.heap.size,0,none⟩) 1 1) (hl:n<536870912) (hB:B<=W.heap.size)
  (k: ∀v' w',w'.ownsRow B e sz v' (n+1) (xs++news)->W.grownBy w' v.ownBlock->(v'.ownBlock=v.ownBlock\/ ∃g,v'.ownBlock=some g/\W.heap.size<=g)->Below B W w'->wpList prog ops Q rest (a.put o.dst v') w'):
  wpList prog ops Q (o :: rest) a (W.alloc (.cells cs e)):=by
 subst hcs;obtain⟨i0,hi,hz0,hz1,hz2⟩:=asM hinfo;refine wpList_append_own_at _ hgd s x T ho B e i0 z sz bytes hT hi hz0 hz1 hz2 hz hsz v n xs hs (asi h _) ⟨W.heap.size,0,none⟩ 1 1 news hx (by omega) ?c1 ?c2 ?c3 ?c4 ?c5 ?_
 case c1=>exact aa4 _ _ _
 case c2=>exact hu
 case c3=>unfold maxLen;omega
 case c4=>
  have:(n+1)*bytes<=536870912*200:=aoL (by omega) hby
  omega
 case c5=>simp;omega
 intro v' w' hown hgr _ hwh;refine k v' w' hown (aS (Bj (iw W _) _) hgr) (hwh.imp id (fun h=>⟨_,h,by simp⟩)) ?_
 exact((aoa B W).alloc hB _).grown hgr (by simp;omega) (fun j e=>(ar5 h j e).1)
def IG (w:World) (base e sz:Nat) (hb:base<=w.heap.size):(w.alloc (.cells #[] e)).ownsRow base e sz (.slice (some ⟨w.heap.size,0,none⟩) 0 0) 0 []:=
 World.ownsRow_made w #[] 0 hb (by unfold maxLen;omega) (by simp)
def I64 (n:Int):Value:=.int .i64 n
def ST (t:List UInt8):Value:=.string ⟨t.toArray⟩
structure qM (W:World) (B:Nat) (u:Value) (v:au.V):Prop where
 ex: ∃An cn At ct,u=.agg #[.int .i64 v.kind,.int .i64 v.num,.string ⟨v.text.toArray⟩,.slice An v.nums.length cn,.slice At v.texts.length ct]/\Reads W B 1 An v.nums.length (v.nums.map I64)/\Reads W B 1 At v.texts.length (v.texts.map ST)
 kin:au.In64 v.kind
 num:au.In64 v.num
 nums: ∀n∈v.nums,au.In64 n
 tl:v.text.length<=1073741824
 nl:v.nums.length<=1073741824
 sl:v.texts.length<=1073741824
 sz: ∀t∈v.texts,t.length<=1073741824
def qM.below {W W':World} {B:Nat} {u:Value} {v:au.V} (h:qM W B u v) (hb:Below B W W'):qM W' B u v:=by
 obtain⟨An,cn,At,ct,e,h1,h2⟩:=h.ex;exact⟨⟨An,cn,At,ct,e,h1.below hb,h2.below hb⟩,h.kin,h.num,h.nums,h.tl,h.nl,h.sl,h.sz⟩
def Un (n:Int):IntKind.u64.wrap n=(au.u64 n:Int):=by
 rw[asZ];unfold au.u64;omega
def ai1 (n:Int):au.KD n=(((((au.u64 n / 4503599627370496) % 2048:Nat):Int) == 2047) &&(((au.u64 n % 4503599627370496:Nat):Int) !=0) &&((au.u64 n:Int) !=9221120237041090560)):=by
 unfold au.KD;have h:=au.KE n;obtain⟨b,hb⟩:=aj (au.u64 n);rw[hb]at h⊢;rw[afN];simp only[afx,aeU,afc,afd,ne_eq];omega
def aa5 (k n:Int) (w:World) (hk:au.In64 k) (hn:au.In64 n):
  Calls prog 168 #[.int .i64 k,.int .i64 n] w fun e w'=>e=.returned (.int .i64 (au.kT k n:Nat))/\w=w':=by
 obtain⟨R,hR⟩:=aj (au.kT k n);rw[hR];unfold au.kT at hR;obtain⟨hk1,hk2⟩:=hk;obtain⟨hn1,hn2⟩:=hn;by_cases h1:k=1
 ·subst h1
  by_cases h0:n=0
  ·subst h0
   rw[aer (by omega),aer (by omega)]at hR
   subst hR;go_enter func168,ntmps168;go_wp2;go_ret;exact⟨rfl,rfl⟩
  by_cases h01:n=1
  ·subst h01
   rw[aer (by omega),aer (by omega)]at hR
   subst hR;go_enter func168,ntmps168;go_wp2;go_ret;exact⟨rfl,rfl⟩
  rw[aeu ⟨rfl,h0,h01⟩]at hR;subst hR;have t0:(n !=0)=true:=afd.2 h0;have t1:(n !=1)=true:=afd.2 h01;clear h0 h01 hk1 hk2 hn1 hn2;go_enter func168,ntmps168;go_wp2;go_ret;exact⟨rfl,rfl⟩
 have t0:(k == 1)=false:=aek.2 h1;by_cases h3:k=3
 ·subst h3
  rw[aer (by omega)]at hR
  have hw:=Un n;have hnr:=ai1 n;have hb:=au.KE n;obtain⟨b,hbb⟩:=aj (au.u64 n);rw[hbb]at hw hnr hb;obtain⟨E,hE⟩:=aj (((b / 4503599627370496 % 2048:Nat):Int) == 2047);obtain⟨F,hF⟩:=aj (((b % 4503599627370496:Nat):Int) !=0);obtain⟨G,hG⟩:=aj ((b:Int) !=9221120237041090560);rw[hE,hF,hG]at hnr;obtain⟨q,hq⟩:=aj (b / 4503599627370496);obtain⟨e,he⟩:=aj (q % 2048);have r1:IntKind.u64.wrap ((b:Int) / 4503599627370496)=(q:Int):=by rw[asZ];omega
  have r2:((q:Int)).tmod 2048=(e:Int):=by rw[Int.tmod_eq_emod_of_nonneg (by omega)];omega
  have hE':((e:Int) == 2047)=E:=by rw[<-hE,hq,he]
  have hF':(((b:Int) % 4503599627370496) !=0)=F:=by rw[<-hF];congr 1
  have hu:=o9;have hr:R=if(E && F && G)=true then 43 else 0:=by rw[<-hR,hnr];simp
  have HR:=ah hr;have hbi:(0:Int)<=b:=by omega
  clear hR hr hE hF hnr hbb hb t0 h1 hk1 hk2 hn1 hn2 hq he;cases E with
  |false=>
   go_enter func168,ntmps168;go_wp2;go_ret;exact⟨by rw[HR.out];rfl,rfl⟩
  |true=>
   cases F with
   |false=>
    go_enter func168,ntmps168;go_wp2;go_ret;exact⟨by rw[HR.out];rfl,rfl⟩
   |true=>
    cases G with
    |false=>
     go_enter func168,ntmps168;go_wp2;go_ret;exact⟨by rw[HR.out];rfl,rfl⟩
    |true=>
     go_enter func168,ntmps168;go_wp2;go_ret;exact⟨by rw[HR.out];rfl,rfl⟩
 rw[aer (by omega),aer (by omega)]at hR
 subst hR;have t3:(k == 3)=false:=aek.2 h3;clear h1 h3 hk1 hk2 hn1 hn2;go_enter func168,ntmps168;go_wp2;go_ret;exact⟨rfl,rfl⟩
def PZ {ops:Array Oper} {o:Oper} {a:Act} {K:Act->World->Prop} {Q:Exit->Act->World->Prop} {E:Prop} (hgd:o.guard=none) (s x:Operand) (T e:TypeId) (z:Value) (bytes:Nat)
  (hT:prog.underlying T=some (.slice e)) (hinfo:(prog.info? e).map (fun i=>(i.zero,i.size,i.bytes))=some (some z,1,bytes)) (hz:z.cells.size=1) (hby:bytes<=24)
  (ho:o.op=.call {callee:=.builtin .append,args:= #[s,x],argTypes:= #[T,T]})
  (B:Nat) (v:Value) (n:Nat) (xs:List Value) (W:World) (hs:a.eval s=v) (h:W.ownsRow B e 1 v n xs) (u:Value) (hu:u.oneCell'=true)
  (hx:a.eval x=.slice (some ⟨W.heap.size,0,none⟩) 1 1) (hl:n<1073741824) (hB:B<=W.heap.size)
  (k: ∀v' w',w'.ownsRow B e 1 v' (n+1) (xs++[u])->W.grownBy w' v.ownBlock->(v'.ownBlock=v.ownBlock\/ ∃g,v'.ownBlock=some g/\W.heap.size<=g)->Below B W w'->K (a.put o.dst v') w'):
  if Region.wanted o (yielded ops a.tmps)=true then Oper.wp prog o a (W.alloc (.cells #[u] e)) K Q else E:=by
 have hw:Region.wanted o (yielded ops a.tmps)=true:=by simp[Region.wanted,hgd]
 rw[aeu hw];obtain⟨i0,hi,hz0,hz1,hz2⟩:=asM hinfo;have hnews: ∀j u',([u]:List Value)[j]?=some u'->(W.alloc (.cells #[u] e)).cell? ((⟨W.heap.size,0,none⟩:Addr).add j)=some u':=cell_one_new _ _ _
 obtain⟨v',w',hrun,h2,h3,h4,h5⟩:=atq (P:=prog) (W.alloc (.cells #[u] e)) B T o.type e i0 z 1 bytes hT hi hz0 hz1 hz2 hz (by decide) v n xs (asi h _) ⟨W.heap.size,0,none⟩ 1 1 [u] rfl hnews (fun y hy=>by rw[afm.1 hy];exact hu) (by unfold maxLen;omega) (by
  have:(n+1)*bytes<=1073741824*24:=aoL (by omega) hby
  omega) (by simp;omega)
 unfold Oper.wp execOp;simp only[ho,resolve,invoke,builtin,Sem.run_bind,Sem.run_pure,atr,arh,agQ,ahr,hs,hx,hrun];refine k v' w' h2 (aS (Bj (iw W _) _) h3) (h5.imp id (fun h=>⟨_,h,by simp⟩)) ?_
 exact((aoa B W).alloc hB _).grown h3 (by simp;omega) (fun j e=>(ar5 h j e).1)
def Reads.cell {w:World} {B:Nat} {A:Option Addr} {n:Nat} {xs:List Value} (h:Reads w B 1 A n xs) {k:Nat} (hk:k<n): ∃b o u,A=some ⟨b,o,none⟩/\b<B/\xs[k]?=some u/\w.cell? ⟨b,o+k,none⟩=some u:=by
 obtain⟨b,o,u,h1,h2,h3,h4⟩:=h.at_ hk;exact⟨b,o,u,h1,h2,h3,h4⟩
def ai2 (B:Nat) (u1 u2:Value) (v:au.V) (w:World) (h1:qM w B u1 v) (h2:qM w B u2 v) (hB:B<=w.heap.size):
  Calls prog 73 #[u1,u2] w fun e w'=>e=.returned (.bool true)/\Below w.heap.size w w':=by
 obtain⟨A1,c1,A2,c2,rfl,dK,dN⟩:=h1.ex;obtain⟨A3,c3,A4,c4,rfl,QK,QL⟩:=h2.ex;have hnl:=h1.nl;have hsl:=h1.sl;have hu:=o9;clear h1 h2;obtain⟨k0,n0,t0,ns,ts⟩:=v;simp only at dK dN QK QL hnl hsl⊢;obtain⟨nn,hnn⟩:=aj ns.length;obtain⟨tn,htn⟩:=aj ts.length;obtain⟨z,hz⟩:=aj (⟨t0.toArray⟩:ByteArray);rw[hnn]at dK QK hnl⊢;rw[htn]at dN QL hsl⊢;rw[hz];obtain⟨W1,hW1⟩:=aj ((w.alloc (.cells #[.int .i64 k0,.int .i64 n0,.string z,.slice A1 nn c1,.slice A2 tn c2] 43)).alloc (.cells #[.int .i64 k0,.int .i64 n0,.string z,.slice A3 nn c3,.slice A4 tn c4] 43));have hb1:Below w.heap.size w W1:=by rw[<-hW1];exact((aoa _ w).alloc (aej _) _).alloc (by simp) _
 have k1:ak W1 w.heap.size 43 #[.int .i64 k0,.int .i64 n0,.string z,.slice A1 nn c1,.slice A2 tn c2]:=by rw[<-hW1];exact(ak.new _ _ _).alloc _
 have k2:ak W1 (w.heap.size+1) 43 #[.int .i64 k0,.int .i64 n0,.string z,.slice A3 nn c3,.slice A4 tn c4]:=by rw[<-hW1];have:=ak.new (w.alloc (.cells #[.int .i64 k0,.int .i64 n0,.string z,.slice A1 nn c1,.slice A2 tn c2] 43)) 43 #[.int .i64 k0,.int .i64 n0,.string z,.slice A3 nn c3,.slice A4 tn c4];simpa using this
 refine gq6 (dK.below (hb1.mono hB)) (dN.below (hb1.mono hB)) (QK.below (hb1.mono hB)) (QL.below (hb1.mono hB)) hb1 hW1 fun Ae Em RB1 RB2 HB1 HW1=>?_;have a0:=k1.cell 0;have a1:=k1.cell 1;have a2:=k1.cell 2;have a3:=k1.cell 3;have a4:=k1.cell 4;have b0:=k2.cell 0;have b1:=k2.cell 1;have b2:=k2.cell 2;have b3:=k2.cell 3;have b4:=k2.cell 4;simp at a0 a1 a2 a3 a4 b0 b1 b2 b3 b4;clear dK dN QK QL hnn htn hz k1 k2 hb1 hW1;go_enter func73,ntmps73
 go_upto_region 1 with fail
 rw[HW1.out];clear HW1;go_wp2_with fail
 go_loopg [5] nn (fun g x wr=> ∃k m:Nat,x=.int .i64 k/\k+g=nn/\W1.drewN m=wr)
 case atStart=>exact⟨0,0,rfl,by omega,rfl⟩
 obtain⟨k,m,rfl,hk,rfl⟩:=hrel;have fQ:(k:Int)<=1073741824:=by omega
 have HK:=ah hk;cases gk with
 |zero=>
  obtain rfl:k=nn:=by omega
  clear hk;go_wp2_with fail
  go_loopg [6] tn (fun g x wr=> ∃j m:Nat,x=.int .i64 j/\j+g=tn/\W1.drewN m=wr)
  case atStart=>exact⟨0,m,rfl,by omega,rfl⟩
  obtain⟨j,m,rfl,hj,rfl⟩:=hrel;have oH:(j:Int)<=1073741824:=by omega
  have HJ:=ah hj;cases gk with
  |zero=>
   obtain rfl:j=tn:=by omega
   clear hj;go_wp2;go_ret;exact⟨rfl,below_drewN HB1.out _⟩
  |succ g=>
   have hjn:j<tn:=by omega
   have oH:(j:Int)<tn:=by omega
   obtain⟨p,o,x,rfl,-,hx,hp⟩:=Em.out.cell hjn;obtain⟨p',o',x',rfl,-,hx',hp'⟩:=RB2.out.cell hjn;rw[hx]at hx';obtain rfl:x=x':=aeM hx';rw[aeY]at hx;obtain⟨y,-,rfl⟩:=afr.1 hx;unfold ST at hp hp';clear hx hx' hj;go_wp2_with fail
   go_quiet (fail)
   go_wp2
   go_roundg g
   case measure=>omega
   exact⟨j+1,m+nq,int_eq' (by omega),by have:=HJ.out;omega,rfl⟩
 |succ g=>
  have hkn:k<nn:=by omega
  have dW:(k:Int)<nn:=by omega
  obtain⟨p,o,x,rfl,-,hx,hp⟩:=Ae.out.cell hkn;obtain⟨p',o',x',rfl,-,hx',hp'⟩:=RB1.out.cell hkn;rw[hx]at hx';obtain rfl:x=x':=aeM hx';rw[aeY]at hx;obtain⟨y,-,rfl⟩:=afr.1 hx;unfold I64 at hp hp';clear hx hx' hk;go_wp2_with fail
  go_quiet (fail)
  go_wp2
  go_roundg g
  case measure=>omega
  exact⟨k+1,m+nq,int_eq' (by omega),by have:=HK.out;omega,rfl⟩
structure uw (W:World) (B:Nat) (u:Value) (v:au.V):Prop where
 ex: ∃s t,u=.agg #[.int .i64 v.kind,.int .i64 v.num,.string ⟨v.text.toArray⟩,s,t]/\W.ownsRow B 2 1 s v.nums.length (v.nums.map I64)/\W.ownsRow B 9 1 t v.texts.length (v.texts.map ST)
structure QM (v:au.V):Prop where
 kin:au.In64 v.kind
 num:au.In64 v.num
 nums: ∀n∈v.nums,au.In64 n
 tl:v.text.length<=1073741824
 nl:v.nums.length<=1073741824
 sl:v.texts.length<=1073741824
 sz: ∀t∈v.texts,t.length<=1073741824
def Uo:(prog.info? 2).map (fun i=>(i.zero,i.size,i.bytes))=some (some (.int .i64 0),1,8):=by kernel_rfl
def DK:(prog.info? 9).map (fun i=>(i.zero,i.size,i.bytes))=some (some (.string ⟨#[]⟩),1,16):=by kernel_rfl
namespace au
def nZ (k:Int):Int:=if 4<k then k - 4 else k
end au
def ai3 (n:Int):au.KD n=((((au.u64 n % 9223372036854775808 / 4503599627370496:Nat):Int) == 2047) &&(((au.u64 n*4096 % 18446744073709551616:Nat):Int) !=0) &&((au.u64 n:Int) !=9221120237041090560)):=by
 unfold au.KD;have h:=au.KE n;obtain⟨b,hb⟩:=aj (au.u64 n);rw[hb]at h⊢;rw[afN];simp only[afx,aeU,afc,afd,ne_eq];omega
def Ur (k:Int) (w:World) (hk:au.In64 k):
  Calls prog 121 #[.int .i64 k] w fun e w'=>e=.returned (.int .i64 (au.nZ k))/\w=w':=by
 obtain⟨h1,h2⟩:=hk;unfold au.nZ;by_cases h:4<k
 ·rw[aeu h]
  go_enter func121,ntmps121;go_wp2;go_ret;exact⟨rfl,rfl⟩
 rw[aer h];have h':k<=4:=by omega
 go_enter func121,ntmps121;go_wp2;go_ret;exact⟨rfl,rfl⟩
def aa6 (k n:Int) (w:World) (hk:au.In64 k) (_hn:au.In64 n):
  Calls prog 79 #[.int .i64 k,.int .i64 n] w fun e w'=>e=.returned (.int .i64 (au.kT (au.nZ k) n:Nat))/\w=w':=by
 have hb:=fun(W:World)=>Ur k W hk
 obtain⟨c,hc⟩:=aj (au.nZ k);rw[hc]at hb⊢;have HB:=ah hb;obtain⟨R,hR⟩:=aj (au.kT c n);rw[hR];unfold au.kT at hR;clear hk _hn hb hc;by_cases h1:c=1
 ·subst h1
  by_cases h0:n=0
  ·subst h0
   rw[aer (by omega),aer (by omega)]at hR
   subst hR;go_enter func79,ntmps79;go_wp2_with fail;refine iq7 (HB.out _) ?_;go_wp2;go_ret;exact⟨rfl,rfl⟩
  by_cases h01:n=1
  ·subst h01
   rw[aer (by omega),aer (by omega)]at hR
   subst hR;go_enter func79,ntmps79;go_wp2_with fail;refine iq7 (HB.out _) ?_;go_wp2;go_ret;exact⟨rfl,rfl⟩
  rw[aeu ⟨rfl,h0,h01⟩]at hR;subst hR;have t0:(n !=0)=true:=afd.2 h0;have t1:(n !=1)=true:=afd.2 h01;clear h0 h01;go_enter func79,ntmps79;go_wp2_with fail;refine iq7 (HB.out _) ?_;go_wp2;go_ret;exact⟨rfl,rfl⟩
 have t0:(c == 1)=false:=aek.2 h1;by_cases h3:c=3
 ·subst h3
  rw[aer (by omega)]at hR
  have hw:=Un n;have hnr:=ai3 n;have hb:=au.KE n;obtain⟨b,hbb⟩:=aj (au.u64 n);rw[hbb]at hw hnr hb;obtain⟨q,hq⟩:=aj (b % 9223372036854775808 / 4503599627370496);obtain⟨g,hg⟩:=aj (b*4096 % 18446744073709551616);have r1:=ain b hb;rw[hq]at r1 hnr;rw[hg]at hnr;have r2:IntKind.u64.wrap ((b:Int)*4096)=(g:Int):=by rw[asZ];omega
  obtain⟨E,hE⟩:=aj ((q:Int) == 2047);obtain⟨F,hF⟩:=aj ((g:Int) !=0);obtain⟨G,hG⟩:=aj ((b:Int) !=9221120237041090560);rw[hE,hF,hG]at hnr;have hu:=o9;have hr:R=if(E && F && G)=true then 43 else 0:=by rw[<-hR,hnr];simp
  have HR:=ah hr;have hbi:(0:Int)<=b:=by omega
  clear hR hr hnr hbb hb t0 h1 hq hg;cases E with
  |false=>
   go_enter func79,ntmps79;go_wp2_with fail;refine iq7 (HB.out _) ?_;go_wp2;go_ret;exact⟨by rw[HR.out];rfl,rfl⟩
  |true=>
   cases F with
   |false=>
    go_enter func79,ntmps79;go_wp2_with fail;refine iq7 (HB.out _) ?_;go_wp2;go_ret;exact⟨by rw[HR.out];rfl,rfl⟩
   |true=>
    cases G with
    |false=>
     go_enter func79,ntmps79;go_wp2_with fail;refine iq7 (HB.out _) ?_;go_wp2;go_ret;exact⟨by rw[HR.out];rfl,rfl⟩
    |true=>
     go_enter func79,ntmps79;go_wp2_with fail;refine iq7 (HB.out _) ?_;go_wp2;go_ret;exact⟨by rw[HR.out];rfl,rfl⟩
 rw[aer (by omega),aer (by omega)]at hR
 subst hR;have t3:(c == 3)=false:=aek.2 h3;clear h1 h3;go_enter func79,ntmps79;go_wp2_with fail;refine iq7 (HB.out _) ?_;go_wp2;go_ret;exact⟨rfl,rfl⟩
def ai4 (s:ByteArray) (w:World):Calls prog 78 #[.string s] w fun e w'=>e=.returned (.bool (decide (1000<s.size)))/\w=w':=by
 by_cases h:1000<s.size
 ·rw[aei h]
  have h':(1000:Int)<s.size:=by omega
  have t:decide (1000<s.size)=true:=aei h;go_enter func78,ntmps78;go_wp2;go_ret;exact⟨by simp,rfl⟩
 rw[dF h];have h':(s.size:Int)<=1000:=by omega
 have t:decide (1000<s.size)=false:=dF h;go_enter func78,ntmps78;go_wp2;go_ret;exact⟨by simp;omega,rfl⟩
def DL:List (List UInt8)->Nat->Int
 |[],_=> -1
 |t :: r,i=>if 1000<t.length then(i:Int) else DL r (i+1)
def aa7: ∀(l:List (List UInt8)) (i:Nat),decide (0<=DL l i)=au.oZ l
 |[],i=>rfl
 |t :: r,i=>by
  unfold DL au.oZ;rw[List.any_cons];by_cases h:1000<t.length
  ·rw[aeu h,aei h,apE]
   exact aei (by omega)
  rw[aer h,dF h,aoQ];exact aa7 r (i+1)
def ai5 (B:Nat) (A:Option Addr) (n c:Nat) (ts:List (List UInt8)) (w:World) (h:Reads w B 1 A n (ts.map ST)) (hn:ts.length=n) (hl:n<=1073741824) (hsz: ∀t∈ts,t.length<=1073741824):
  Calls prog 122 #[.slice A n c,.func (.func 78) #[] #[]] w fun e w'=>e=.returned (.int .i64 (DL ts 0))/\w=w':=by
 obtain⟨R,hR⟩:=aj (DL ts 0);rw[hR];refine gq5 h hn hR hsz ai4 fun H HN HR bf uI=>?_;clear h hn hR hsz;go_enter func122,ntmps122;go_wp2_with fail
 go_loopg [8] n (fun g x wr=> ∃k:Nat,x=.int .i64 k/\k+g=n/\DL (ts.drop k) k=R/\w=wr)
 case atStart=>exact⟨0,rfl,by omega,HR.out,rfl⟩
 obtain⟨k,rfl,hk,hr,rfl⟩:=hrel;have HK:=ah hk;have wZ:=ah hr;have fQ:(k:Int)<=1073741824:=by omega
 clear hr;cases gk with
 |zero=>
  obtain rfl:k=n:=by omega
  have hr:=wZ.out;rw[agS (by have:=HN.out;omega)]at hr
  have HRR:=ah (show -1=R from hr)
  clear hk hr;go_wp2;go_ret;exact⟨by rw[<-HRR.out];rfl,rfl⟩
 |succ g=>
  have hkn:k<n:=by omega
  have dW:(k:Int)<n:=by omega
  have hkl:k<ts.length:=by rw[HN.out];exact hkn
  obtain⟨p,o,x,rfl,-,hx,hp⟩:=H.out.cell hkn;rw[aeY,aen hkl]at hx;obtain rfl:=(aeM hx).symm;have hr:=wZ.out;rw[afk hkl]at hr;have hyl:(ts[k]).length<=1073741824:=bf.out _ (List.getElem_mem _);obtain⟨y,hy⟩:=aj (ts[k]);rw[hy]at hp hr hyl;unfold ST at hp;obtain⟨zy,hzy⟩:=aj (⟨y.toArray⟩:ByteArray);rw[hzy]at hp;have hzs:zy.size=y.length:=by rw[<-hzy];exact dR _
  have hcall:=fun(W:World)=>uI.out zy W
  rw[hzs]at hcall;unfold DL at hr;by_cases hl1:1000<y.length
  ·rw[aeu hl1]at hr
   rw[aei hl1]at hcall;have HC:=ah hcall;have HRR:=ah hr;clear hx hk hkl hy hzy hzs hcall hr hl1 hyl;go_wp2_with fail;refine iq7 (HC.out _) ?_;go_wp2;go_ret;exact⟨by rw[<-HRR.out];rfl,rfl⟩
  rw[aer hl1]at hr;rw[dF hl1]at hcall;have HC:=ah hcall;have HRR:=ah hr;clear hx hk hkl hy hzy hzs hcall hr hl1 hyl;go_wp2_with fail;refine iq7 (HC.out _) ?_;go_wp2
  go_roundg g
  case measure=>omega
  exact⟨k+1,int_eq' (by omega),by have:=HK.out;omega,HRR.out,rfl⟩
def ai6 (B:Nat) (A:Option Addr) (n c:Nat) (ts:List (List UInt8)) (w:World) (h:Reads w B 1 A n (ts.map ST)) (hn:ts.length=n) (hl:n<=1073741824) (hsz: ∀t∈ts,t.length<=1073741824):
  Calls prog 77 #[.slice A n c,.func (.func 78) #[] #[]] w fun e w'=>e=.returned (.bool (au.oZ ts))/\w=w':=by
 have hc:=ai5 B A n c ts w h hn hl hsz;obtain⟨R,hR⟩:=aj (DL ts 0);obtain⟨L,hL⟩:=aj (au.oZ ts);have he:=aa7 ts 0;rw[hR,hL]at he;rw[hR]at hc;rw[hL];have HC:=ah hc;clear hc hR hL h hn hl hsz;go_enter func77,ntmps77;go_wp2_with fail;refine iq8 HC ?_;go_wp2;go_ret;exact⟨by simp,rfl⟩
end Go.Proofs.YtdijgcnlbfgkdaaGreatDoor
