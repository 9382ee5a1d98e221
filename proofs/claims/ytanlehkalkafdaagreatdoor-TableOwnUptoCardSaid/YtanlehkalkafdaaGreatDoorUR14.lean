/- Contracts and plain laws,part 14. -/
import Derived.Test.YtanlehkalkafdaaGreatDoorUR13
set_option maxHeartbeats 64000000
set_option maxRecDepth 1000000
set_option linter.all false
namespace Go.Proofs.YtanlehkalkafdaaGreatDoor
open Go.RowKit
attribute [local go_sem] Oper.semAt_some
theorem rows_any (s:ByteArray) (w:World):
  Calls Tryz.prog 65 #[.string s] w fun e w'=>e=.returned (.func (.func 112) #[] #[.pointer (some ⟨w.heap.size,0,none⟩)])/\w.alloc (.cells #[.string s] 9)=w':=by
 go_enter Tryz.func65,Tryz.ntmps65;go_wp2;go_ret;exact⟨rfl,rfl⟩
def OwnRows (w:World) (B:Nat) (v:Value) (rows:List (List Csv.F)):Prop:=
 ∃us:List Value,us.length=rows.length/\w.ownsRow B 45 1 v us.length us/\(∀(k:Nat) u r,us[k]?=some u->rows[k]?=some r->w.ownsRow B 9 1 u r.length (r.map S))/\
  (∀(i j:Nat) u u',i<j->us[i]?=some u->us[j]?=some u'->u.ownBlock=none\/u.ownBlock≠u'.ownBlock)
theorem OwnRows.nil (w:World) (B:Nat):OwnRows w B (.slice none 0 0) []:=⟨[],rfl,World.ownsRow_nil _ _ _ _,fun k u r h=>by simp at h,fun i j u u' _ h=>by simp at h⟩
theorem OwnRows.same1 {w w':World} {B n₁:Nat} {v:Value} {rows:List (List Csv.F)} (h:OwnRows w B v rows) (hs:Same1 165 n₁ w w'):OwnRows w' B v rows:=by
 obtain⟨us,h1,h2,h3,h4⟩:=h
 exact⟨us,h1,hs.own h2 (by decide),fun k u r hu hr=>hs.own (h3 k u r hu hr) (by decide),h4⟩
theorem OwnRows.snoc {w:World} {B:Nat} {v u:Value} {us:List Value} {rows:List (List Csv.F)} {fs:List Csv.F} (h1:us.length=rows.length) (h2:w.ownsRow B 45 1 v (us.length+1) (us++[u]))
  (h3: ∀(k:Nat) u r,us[k]?=some u->rows[k]?=some r->w.ownsRow B 9 1 u r.length (r.map S)) (hu:w.ownsRow B 9 1 u fs.length (fs.map S))
  (h4: ∀(i j:Nat) u u',i<j->us[i]?=some u->us[j]?=some u'->u.ownBlock=none\/u.ownBlock≠u'.ownBlock) (h5: ∀(i:Nat) x,us[i]?=some x->x.ownBlock=none\/x.ownBlock≠u.ownBlock):OwnRows w B v (rows++[fs]):=by
 refine⟨us++[u],by simp[h1],by simpa using h2,fun k x r hx hr=> ?_,fun i j x x' hij hx hx'=> ?_⟩
 ·by_cases hk:k<us.length
  ·rw[uN hk]at hx
   rw[uN (by omega)]at hr
   exact h3 k x r hx hr
  rw[uI (by omega)]at hx
  rw[uI (by omega)]at hr
  have hk0:k - us.length=0:=by
   have:=(rZ.1 hx).1
   simpa using this
  rw[<-h1,hk0]at hr;rw[hk0]at hx;simp at hx hr;subst hx hr;exact hu
 by_cases hj:j<us.length
 ·rw[uN (by omega)]at hx
  rw[uN hj]at hx';exact h4 i j x x' hij hx hx'
 rw[uI (by omega)]at hx'
 have hj0:j - us.length=0:=by
  have:=(rZ.1 hx').1
  simpa using this
 rw[hj0]at hx';simp at hx';subst hx';rw[uN (by omega)]at hx
 exact h5 i x hx
theorem info_strings:(Tryz.prog.info? 45).map (fun i=>(i.zero,i.size,i.bytes))=some (some (.slice none 0 0),1,24):=by kernel_rfl
def CsvRes (l:Csv.F) (w:World) (e:Ending) (w':World):Prop:=
 ∃v,e=.returned (.tuple #[v,.int .i64 (Csv.rowsOf l).2])/\Below w.heap.size w w'/\(if(Csv.rowsOf l).2=0 then OwnRows w' w.heap.size v (Csv.rowsOf l).1 else v=.slice none 0 0)
theorem csvParse_any (s:ByteArray) (hs:s.size<=16777216) (w:World):
  Calls Tryz.prog 32 #[.string s] w (CsvRes s.data.toList w):=by
 obtain⟨i0,hi,hz0,hz1,hz2⟩:=info_parts info_strings
 refine calls_of_wp_marks Tryz.func32 rfl ?_
 simp only[Tryz.ntmps32,xQ,sS,uO,Nat.reduceAdd,Nat.reduceSub,AZ,Ba,BO,xX,tY,uG]
 go_wp2_with (go_at_call 65;refine(rows_any _ _).mono ?_;rintro e w' ⟨rfl,rfl⟩)
 obtain⟨W,hW⟩:=aj (((w.alloc (.cells #[.slice none 0 0] 61)).alloc (.cells #[.int .i64 0] 28)).alloc (.cells #[.string s] 9))
 have hsz:W.heap.size=w.heap.size+3:=by rw[<-hW];simp
 have b0:Blk W w.heap.size 61 #[.slice none 0 0]:=by rw[<-hW];exact((Blk.new _ _ _).alloc _).alloc _
 have b1:Blk W (w.heap.size+1) 28 #[.int .i64 0]:=by rw[<-hW];have:=((Blk.new (w.alloc (.cells #[.slice none 0 0] 61)) 28 #[.int .i64 0]).alloc (.cells #[.string s] 9));simpa using this
 have b2:Blk W (w.heap.size+2) 9 #[.string s]:=by rw[<-hW];have:=(Blk.new ((w.alloc (.cells #[.slice none 0 0] 61)).alloc (.cells #[.int .i64 0] 28)) 9 #[.string s]);simpa using this
 have bb:Below w.heap.size w W:=by rw[<-hW];exact(((Below.refl _ w).alloc (rM _) _).alloc (by simp) _).alloc (by simp;omega) _
 rw[hW];clear hW;refine(wpIn_wide (n:=9)).1 ?_
 refine wp_iter 165 (gf:=112) (lb:= #[.pointer (some ⟨w.heap.size+2,0,none⟩)]) rfl (enters_of Tryz.func112 (by kernel_rfl) rfl) (encs:=Yld.enc) (fun x=>rfl) (Pre:=Yld.Pre) ?hPre
  (fun W1 hb hn=>rows_iter s (by omega) W.heap.size (w.heap.size+2) (by omega) W1 hn ((hb.cell (p:=⟨w.heap.size+2,0,none⟩) (by show w.heap.size+2<_;omega)).trans (b2.cell 0)))
  (fun pre V=>(∃vo,Blk V w.heap.size 61 #[vo]/\OwnRows V w.heap.size vo (pre.map (·.fs)))/\Blk V (w.heap.size+1) 28 #[.int .i64 0]/\Blk V (w.heap.size+2) 9 #[.string s]/\Below w.heap.size w V/\(∀y∈pre,y.e=0))
  (fun c V=>c=.ret/\(Csv.rowsOf s.data.toList).2≠0/\Blk V w.heap.size 61 #[.slice none 0 0]/\Blk V (w.heap.size+1) 28 #[.int .i64 (Csv.rowsOf s.data.toList).2]/\Below w.heap.size w V)
  ?hI ?hIx ?hAux ⟨⟨_,b0,OwnRows.nil _ _⟩,b1,b2,bb,by simp⟩
  (fun x=>{tmps:= #[.string s,undef,.pointer (some ⟨w.heap.size,0,none⟩),.pointer (some ⟨w.heap.size+1,0,none⟩),x.v,.int .i64 x.e,.string s,.func (.func 112) #[] #[.pointer (some ⟨w.heap.size+1+1,0,none⟩)],x.v,.int .i64 x.e,undef,undef,undef,undef,undef,undef,undef,undef],defers:=[]}) ?assign ?body ?done ?stop
 case hPre=>
  intro x W0 W l r r' h hl;unfold Yld.Pre at h⊢
  split
  ·rename_i h0
   rw[rY h0]at h;exact(Same1.putObj (T:=0) (n₁:=0) r' hl (by omega)).own h (by decide)
  rename_i h0;rw[rU h0]at h;exact h
 case hI=>
  rintro pre A B ⟨⟨vo,h1,h2⟩,h3,h4,h5,h6⟩ hs
  exact⟨⟨vo,hs.blk h1 (by decide),h2.same1 hs⟩,hs.blk h3 (by decide),hs.blk h4 (by decide),h5.trans (hs.below (by omega) h5.size),h6⟩
 case hIx=>
  rintro c A B ⟨hc,h0,h1,h3,h5⟩ hs
  exact⟨hc,h0,hs.blk h1 (by decide),hs.blk h3 (by decide),h5.trans (hs.below (by omega) h5.size)⟩
 case hAux=>
  rintro pre V ⟨_,_,h4,_⟩;exact h4.cell 0
 case assign=>
  intro l x V K hK;simp only[Yld.enc]
  gi_wp2
  exact hK
 case body=>
  rintro l pre x W0 V ⟨⟨vo,h1,h2⟩,h3,h4,h5,h6⟩ hs hpre hstep hl hn0
  have g1:=hs.blk h1 (show 61≠165 by decide)
  have g3:=hs.blk h3 (show 28≠165 by decide)
  have g4:=hs.blk h4 (show 9≠165 by decide)
  have g2:=h2.same1 hs;have g5:=h5.trans (hs.below (by omega) h5.size)
  have c1:=g1.cell 0;have f1:=g1.frozen 0;have c3:=g3.cell 0;have f3:=g3.frozen 0
  simp at c1 c3;obtain⟨v,fs,e⟩:=x;by_cases he:e=0
  ·subst he
   unfold Yld.Pre at hpre;rw[rY rfl]at hpre
   dsimp only at hpre
   clear g2;obtain⟨us,hu1,hu2w,hu3w,hu4⟩:=h2
   have hu2:=hs.own hu2w (show 45≠165 by decide)
   have hu3: ∀(k:Nat) u r,us[k]?=some u->(pre.map (·.fs))[k]?=some r->V.ownsRow w.heap.size 9 1 u r.length (r.map S):=fun k u r hu hr=>hs.own (hu3w k u r hu hr) (by decide)
   have hux: ∀(i:Nat) x,us[i]?=some x-> ∀g,x.ownBlock=some g->g<W0.heap.size:=fun i x hx g hg=>by
    have hi:i<us.length:=(rZ.1 hx).1
    have hr:(pre.map (·.fs))[i]?=some ((pre.map (·.fs))[i]'(by omega)):=ay (by omega)
    exact((hu3w i x _ hx hr).lt g hg).2
   have HUX:=ah hux;clear hux hu2w hu3w;obtain⟨Av,cv,rfl⟩:=own_form hpre
   obtain⟨Ao,co,rfl⟩:=own_form hu2;have HS:=ah hstep;have HG1:=ah g1;have HG3:=ah g3
   have HG4:=ah g4;have HG5:=ah g5;have HW:=ah hsz;have HU2:=ah hu2;have HU3:=ah hu3
   have HU4:=ah hu4;have HU1:=ah hu1;have HP:=ah hpre;have H6:=ah h6
   have HSZ0:w.heap.size<=W0.heap.size:=h5.size
   have hub:us.length<=16777216:=by
    have h8:=hstep.2.1;have h9:=Csv.rowsOf_length s.data.toList;have h10:=Lib.size_eq s
    rw[hu1,sU];omega
   clear hstep g1 g3 g4 h1 h3 h4 h5 h6 g5 hsz hu2 hu3 hu4 hpre hu1
   gi_wp2_with (gi_at_builtin;refine wpListIn_append_own _ rfl _ _ 61 rfl w.heap.size 45 i0 (.slice none 0 0) 1 24 Tryz.underlying61 hi hz0 hz1 hz2 rfl (by decide) _ _ _ rfl (World.ownsRow.alloc HU2.out _) ⟨V.heap.size,0,none⟩ 1 1 [.slice Av fs.length cv] rfl rfl ?c1 ?c2 ?c3 ?c4 ?c5 ?_)
   case c1=>exact cell_one_new _ _ _
   case c2=>simp[Value.oneCell']
   case c3=>unfold maxLen;omega
   case c4=>omega
   case c5=>have:=HG5.size;simp;omega
   intro v' V2 hown' hgrow _;obtain⟨g',cap',rfl⟩:=ownsRow_succ hown'
   have hnb: ∀i,(Value.slice Ao us.length co).ownBlock=some i->w.heap.size<=i/\ ∃c fz,V.heap[i]?=some (.cells c 45 fz):=fun i e=>by
    refine⟨(World.ownsRow.lt HU2.out i e).1, ?_⟩
    rcases HU2.out.2 with⟨h,_⟩|⟨g,cap,cur,h,_,hh,_⟩
    ·rw[h]at e;simp[Value.ownBlock]at e
    rw[h]at e;simp[Value.ownBlock]at e;subst e;exact⟨_,_,hh⟩
   have hne: ∀(i b:Nat) (t:TypeId) (c:Array Value),(Value.slice Ao us.length co).ownBlock=some i->Blk V b t c->t≠45->i≠b:=fun i b t c e hb ht hib=>by
    subst hib;obtain⟨_,c',fz,hc⟩:=hnb i e;unfold Blk at hb;rw[hc]at hb;cases hb
    exact ht rfl
   have k1:Blk V2 w.heap.size 61 #[.slice Ao us.length co]:=Blk.grown (Blk.alloc HG1.out _) hgrow (fun e=>hne _ _ _ _ e.symm HG1.out (by decide) rfl)
   have k3:Blk V2 (w.heap.size+1) 28 #[.int .i64 0]:=Blk.grown (Blk.alloc HG3.out _) hgrow (fun e=>hne _ _ _ _ e.symm HG3.out (by decide) rfl)
   have k4:Blk V2 (w.heap.size+2) 9 #[.string s]:=Blk.grown (Blk.alloc HG4.out _) hgrow (fun e=>hne _ _ _ _ e.symm HG4.out (by decide) rfl)
   have k5:Below w.heap.size w V2:=(HG5.alloc HG5.size _).grown hgrow (by have:=HG5.size;simp;omega) (fun k e=>(hnb k e).1)
   have c2:=k1.cell 0;have f2:=k1.frozen 0;simp at c2;have HK1:=ah k1;have HK3:=ah k3
   have HK4:=ah k4;have HK5:=ah k5;have HNE:=ah hne;have HNB:=ah hnb;have HOW:=ah hown'
   have HGR:=ah hgrow;clear k1 k3 k4 k5 hne hnb hown' hgrow c1 f1 c3 f3
   gi_wp2
   have hset:=grownBy_set V2 ⟨w.heap.size,0,none⟩ (.slice (some ⟨g',0,none⟩) (us.length+1) cap')
   have hboxty: ∀g c t fz,some (⟨w.heap.size,0,none⟩:Addr).block=some g->V2.heap[g]?=some (.cells c t fz)->t=61:=fun g c t fz e hc=>by
    cases e;have:=HK1.out;unfold Blk at this
    rw[show V2.heap[w.heap.size]?=some (.cells c t fz) from hc]at this
    cases this;rfl
   have hrowty: ∀g c t fz,(Value.slice Ao us.length co).ownBlock=some g->(V.alloc (.cells #[.slice Av fs.length cv] 45)).heap[g]?=some (.cells c t fz)->t=45:=fun g c t fz e hc=>by
    obtain⟨_,c',fz',hc'⟩:=HNB.out g e;rw[Below.heap_alloc _ _ _ (sW.1 hc').1,hc']at hc
    cases hc;rfl
   have inner: ∀{u:Value} {r:List Csv.F} {B:Nat},V.ownsRow B 9 1 u r.length (r.map S)->(V2.setCell ⟨w.heap.size,0,none⟩ (.slice (some ⟨g',0,none⟩) (us.length+1) cap')).ownsRow B 9 1 u r.length (r.map S):=fun h=>
    own_kept_ty (own_kept_ty (World.ownsRow.alloc h _) HGR.out (fun g c t fz e hc=>by rw[hrowty g c t fz e hc];decide)) hset (fun g c t fz e hc=>by rw[hboxty g c t fz e hc];decide)
   refine⟨((KeepsOthers.alloc _ _).from _).trans (((KeepsOthers.of_grownBy HGR.out (fun j o e ho=> ?_)).from _).trans ((KeepsOthers.setCell _ _ _).from _)), ?_,⟨_,Blk.set_ HK1.out 0 _, ?_⟩,Blk.far HK3.out (by simp) _,Blk.far HK4.out (by simp) _,HK5.setCell (p:=⟨w.heap.size,0,none⟩) (rM _) _, ?_⟩
   ·obtain⟨_,c',fz',hc'⟩:=HNB.out j e
    rw[Below.heap_alloc _ _ _ (sW.1 hc').1,hc']at ho;cases ho;rfl
   ·refine(KeepT.of_grown (World.grownBy_alloc _ _ none) (fun g c fz e=>by cases e)).trans ((KeepT.of_grown HGR.out (fun g c fz e hc=> ?_)).trans (KeepT.of_grown hset (fun g c fz e hc=> ?_)))
    ·exact absurd (hrowty g c _ fz e hc) (by decide)
    exact absurd (hboxty g c _ fz e hc) (by decide)
   ·rw[uf]
    refine OwnRows.snoc HU1.out (own_kept_ty HOW.out hset (fun g c t fz e hc=>by rw[hboxty g c t fz e hc];decide)) (fun k u r hu hr=>inner (HU3.out k u r hu hr)) (own_base (inner HP.out) HSZ0) HU4.out (fun i x hx=> ?_)
    cases hxb:x.ownBlock with
    |none=>exact .inl rfl
    |some g=>
     refine .inr (fun e=> ?_)
     have h8:=HUX.out i x hx g hxb;have h9:=(own_blocks HP.out g e.symm).1;omega
   intro y hy
   rcases tZ.1 hy with h|h
   ·exact H6.out y h
   rw[ug.1 h]
  have heb:((e:Int) !=0)=true:=by rw[tH];omega
  unfold Yld.Pre at hpre;rw[rU he]at hpre;obtain⟨rfl,rfl⟩:=hpre;have HS:=ah hstep
  have HG1:=ah g1;have HG3:=ah g3;have HG5:=ah g5;have HW:=ah hsz
  clear hstep g1 g2 g3 g4 h1 h2 h3 h4 h5 h6 g5 hsz
  gi_wp2
  have h9:(Csv.rowsOf s.data.toList).2=e:=by
   have:=HS.out.2.2.2;rw[rU he]at this;exact this.2
  refine⟨((KeepsOthers.setCell _ _ _).from _).trans ((KeepsOthers.setCell _ _ _).from _),rfl,by rw[h9];exact he, ?_, ?_, ?_⟩
  ·exact Blk.far (Blk.set_ HG1.out 0 _) (by simp) _
  ·rw[h9]
   exact Blk.set_ (Blk.far HG3.out (by simp) _) 0 _
  exact((HG5.out).setCell (p:=⟨w.heap.size,0,none⟩) (rM _) _).setCell (p:=⟨w.heap.size+1,0,none⟩) (by simp) _
 case done=>
  rintro D xs V hD hend ⟨⟨vo,h1,h2⟩,h3,h4,h5,h6⟩ hK
  have hdone:(Csv.rowsOf s.data.toList).2=0/\xs.map (·.fs)=(Csv.rowsOf s.data.toList).1:=by
   rcases hend with⟨q1,_,q3⟩|⟨q,x,rfl,hx,_⟩
   ·exact⟨q1,q3⟩
   exact absurd (h6 x (by simp)) hx
  have h2':=h2;obtain⟨us,hu1,hu2,hu3,hu4⟩:=h2;obtain⟨Ao,co,rfl⟩:=own_form hu2
  have c1:=h1.cell 0;have f1:=h1.frozen 0;have c3:=h3.cell 0;have f3:=h3.frozen 0
  simp at c1 c3;have HD:=ah hdone;have H1:=ah h1;have H2:=ah h2';have H3:=ah h3
  have H5:=ah h5;have HKD:=ah hK;have HSZ:=ah hsz
  clear hdone h1 h3 h4 h5 h6 hend hK hu1 hu2 hu3 hu4 h2' hsz;go_wp2
  have n0:D≠w.heap.size:=by have:=HSZ.out;omega
  have n1:D≠w.heap.size+1:=by have:=HSZ.out;omega
  have hK2:((V.setCell ⟨w.heap.size,0,none⟩ (.slice Ao us.length co)).setCell ⟨w.heap.size+1,0,none⟩ (.int .i64 0)).heap[D]?=some (.deferred (some [])):=by
   rw[Below.heap_setCell _ _ _ _ n1,Below.heap_setCell _ _ _ _ n0];exact HKD.out
  have B1:=blk_putObj (o:=.deferred none) hK2 (Blk.far (Blk.set_ H1.out 0 (.slice Ao us.length co)) (p:=⟨w.heap.size+1,0,none⟩) (by simp) (.int .i64 0))
  have B3:=blk_putObj (o:=.deferred none) hK2 (Blk.set_ (Blk.far H3.out (p:=⟨w.heap.size,0,none⟩) (by simp) (.slice Ao us.length co)) 0 (.int .i64 0))
  have q1:=B1.cell 0;have q3:=B3.cell 0;simp at q1 q3
  refine ret_mark hK2 (v:=.tuple #[.slice Ao us.length co,.int .i64 0]) (by simp[results,Tryz.results32,go_sem,q1,q3]) ?_
  have keep: ∀{e n:Nat} {v:Value} {xs:List Value},e≠61->e≠28->V.ownsRow w.heap.size e 1 v n xs->(((V.setCell ⟨w.heap.size,0,none⟩ (.slice Ao us.length co)).setCell ⟨w.heap.size+1,0,none⟩ (.int .i64 0)).putObj D (.deferred none)).ownsRow w.heap.size e 1 v n xs:=fun he1 he2 h=>
   own_putObj hK2 (own_kept_ty (own_kept_ty h (grownBy_set _ _ _) (fun g c t fz e hc=>by
    cases e;have:=H1.out;unfold Blk at this
    rw[show V.heap[w.heap.size]?=some (.cells c t fz) from hc]at this
    cases this
    exact Ne.symm he1)) (grownBy_set _ _ _) (fun g c t fz e hc=>by
    cases e
    have:=Blk.far H3.out (p:=⟨w.heap.size,0,none⟩) (by simp) (.slice Ao us.length co)
    unfold Blk at this
    rw[show(V.setCell ⟨w.heap.size,0,none⟩ (.slice Ao us.length co)).heap[w.heap.size+1]?=some (.cells c t fz) from hc]at this
    cases this
    exact Ne.symm he2))
  obtain⟨us',p1,p2,p3,p4⟩:=H2.out
  refine⟨_,by rw[HD.out.1];rfl,below_putObj ((H5.setCell (p:=⟨w.heap.size,0,none⟩) (rM _) _).setCell (p:=⟨w.heap.size+1,0,none⟩) (by simp) _) (by have:=HSZ.out;omega), ?_⟩
  rw[rY HD.out.1,<-HD.out.2]
  exact⟨us',p1,keep (by decide) (by decide) p2,fun k u r hu hr=>keep (by decide) (by decide) (p3 k u r hu hr),p4⟩
 rintro D c V hD ⟨rfl,h0,h1,h3,h5⟩ hK;refine wpIn_wide.2 ?_;have H1:=ah h1;have H3:=ah h3
 have H5:=ah h5;have HKD:=ah hK;have H0:=ah h0;have HSZ:=ah hsz;clear h0 h1 h3 h5 hK hsz
 go_wp2;have B1:=blk_putObj (o:=.deferred none) HKD.out H1.out
 have B3:=blk_putObj (o:=.deferred none) HKD.out H3.out;have q1:=B1.cell 0
 have q3:=B3.cell 0;simp at q1 q3
 refine ret_mark HKD.out (v:=.tuple #[.slice none 0 0,.int .i64 (Csv.rowsOf s.data.toList).2]) (by simp[results,Tryz.results32,go_sem,q1,q3]) ?_
 exact⟨_,rfl,below_putObj H5.out (by have:=HSZ.out;omega),by rw[rU H0.out]⟩
end Go.Proofs.YtanlehkalkafdaaGreatDoor
namespace Go.Proofs.YtanlehkalkafdaaGreatDoor
open Go.RowKit
def Row1 (w:World) (B:Nat) (v:Value) (ss:List Csv.F):Prop:=
 ∃A c,v=.slice A ss.length c/\ss.length<=c/\c<=maxLen/\Reads w B 1 A ss.length (ss.map S)
def Rows2 (w:World) (B:Nat) (v:Value) (rows:List (List Csv.F)):Prop:=
 ∃A c us,v=.slice A rows.length c/\rows.length<=c/\c<=maxLen/\us.length=rows.length/\Reads w B 1 A rows.length us/\ ∀(k:Nat) u r,us[k]?=some u->rows[k]?=some r->Row1 w B u r
section
variable {w w':World} {B B':Nat} {v:Value} {ss:List Csv.F} {rows:List (List Csv.F)}
theorem Row1.below (h:Row1 w B v ss) (hb:Below B w w'):Row1 w' B v ss:=by
 obtain⟨A,c,h1,h2,h3,h4⟩:=h;exact⟨A,c,h1,h2,h3,h4.below hb⟩
theorem Rows2.below (h:Rows2 w B v rows) (hb:Below B w w'):Rows2 w' B v rows:=by
 obtain⟨A,c,us,h1,h2,h3,h4,h5,h6⟩:=h
 exact⟨A,c,us,h1,h2,h3,h4,h5.below hb,fun k u r hu hr=>(h6 k u r hu hr).below hb⟩
theorem Row1.of_own {base:Nat} (h:w.ownsRow base 9 1 v ss.length (ss.map S)):Row1 w w.heap.size v ss:=by
 rcases h.2 with⟨rfl,hn⟩|⟨g,cap,cur,rfl,hb,hg,h1,h2,h3⟩
 ·refine⟨none,0,by rw[hn],by omega,by unfold maxLen;omega, ?_⟩
  have:ss=[]:=sH hn;subst this;exact Reads.none_
 exact⟨_,cap,rfl,h1,h2,Reads.of_own (c:=cap) h⟩
theorem Rows2.of_own {base:Nat} (h:OwnRows w base v rows):Rows2 w w.heap.size v rows:=by
 obtain⟨us,h1,h2,h3,h4⟩:=h
 rcases h2.2 with⟨rfl,hn⟩|⟨g,cap,cur,rfl,hb,hg,q1,q2,q3⟩
 ·have hr:rows=[]:=sH (by omega)
  subst hr;have hu:us=[]:=sH hn;subst hu
  exact⟨none,0,[],rfl,by simp,by unfold maxLen;omega,rfl,Reads.none_,fun k u r hu=>by simp at hu⟩
 refine⟨_,cap,us,by rw[<-h1],by omega,q2,h1, ?_,fun k u r hu hr=>Row1.of_own (h3 k u r hu hr)⟩
 rw[<-h1];exact Reads.of_own (c:=cap) h2
end
end Go.Proofs.YtanlehkalkafdaaGreatDoor
namespace Go.Proofs.YtanlehkalkafdaaGreatDoor
open Go.RowKit Go.Lib
theorem containsAny_any (s cs:ByteArray) (w:World) (hs:s.size<4294967281) (h2:2<=cs.size) (hc:cs.size<=1048576) (hascii: ∀(j:Nat) b,cs.data.toList[j]?=some b->b.toNat<128):
  Calls Tryz.prog 59 #[.string s,.string cs] w fun e w'=>e=.returned (.bool (Lib.containsAny s.data.toList cs.data.toList))/\Below w.heap.size w w':=by
 have HA:=ah hascii;clear hascii;go_enter Tryz.func59,Tryz.ntmps59
 go_wp2_with (go_at_call 107;refine(indexAny_any _ _ _ hs h2 hc HA.out).mono ?_;rintro e w' ⟨rfl,hb⟩)
 go_ret;exact⟨rfl,hb⟩
end Go.Proofs.YtanlehkalkafdaaGreatDoor
namespace Go.Proofs.YtanlehkalkafdaaGreatDoor
open Go.RowKit
def printVal (k:Int):Option Csv.F->Value
 |none=> .tuple #[.string ⟨#[]⟩,.int .i64 k]
 |some t=> .tuple #[.string ⟨t.toArray⟩,.int .i64 0]
theorem esc_repl (f:Csv.F):Csv.esc f=repl1 34 [34,34] f:=rfl
theorem replB (f:Csv.F):(⟨(Lib.replaceAll (⟨f.toArray⟩:ByteArray).data.toList (⟨#[34]⟩:ByteArray).data.toList (⟨#[34,34]⟩:ByteArray).data.toList).toArray⟩:ByteArray)=⟨(Csv.esc f).toArray⟩:=by
 rw[esc_repl,<-replaceAll_one f 34 [34,34] (by decide)]
theorem wRows_cons (r:List Csv.F) (rs:List (List Csv.F)):Csv.wRows (r :: rs)=Csv.wRow r+Csv.wRows rs:=by simp[Csv.wRows]
theorem csvRow_cons (f:Csv.F) (r:List Csv.F):Csv.wRow (f :: r)=2*f.length+3+Csv.wRow r:=by simp[Csv.wRow];omega
theorem fieldsK_cons (k:Nat) (f:Csv.F) (r:List Csv.F):Csv.fieldsK k (f :: r)=(if 0<k then[44] else[])++Csv.printF f++Csv.fieldsK (k+1) r:=rfl
theorem len_le_wRow (r:List Csv.F):r.length<=Csv.wRow r:=by
 induction r with
 |nil=>simp
 |cons f r ih=>rw[csvRow_cons];simp;omega
theorem len_le_wRows (rs:List (List Csv.F)):rs.length<=Csv.wRows rs:=by
 induction rs with
 |nil=>simp
 |cons r rs ih=>
  rw[wRows_cons];have:2<=Csv.wRow r:=by simp[Csv.wRow]
  simp;omega
theorem any_special (f:Csv.F):Lib.containsAny f [34,44,13,10]=f.any Csv.special:=by
 unfold Lib.containsAny
 induction f with
 |nil=>rfl
 |cons b f ih=>
  have hb:([34,44,13,10]:List UInt8).contains b=Csv.special b:=by
   unfold Csv.special
   cases h1:b == 34<;>cases h2:b == 44<;>cases h3:b == 13<;>cases h4:b == 10<;>simp only[List.contains_cons,List.contains_nil,h1,h2,h3,h4]<;>rfl
  have hge:=Lib.indexAny_ge [34,44,13,10] f;rw[Lib.indexAny,CP,<-ih,hb]
  cases Csv.special b with
  |true=>simp
  |false=>
   rw[rU (by simp),Bool.false_or]
   split
   ·rename_i h;rw[eq_of_beq h]
   rename_i h;have:Lib.indexAny f [34,44,13,10]≠ -1:=fun e=>h (by rw[e];rfl)
   simp only[decide_eq_decide];omega
theorem csvPrint_any (a:Value) (x:List (List Csv.F)) (w:World) (m:Int) (ha:Rows2 w w.heap.size a x) (hm:w.cell? ⟨0,0,none⟩=some (.int .i64 m)) (hw:Csv.wRows x<=268435456):
  Calls Tryz.prog 25 #[a] w fun e w'=>e=.returned (printVal 2 (Csv.print x))/\Below w.heap.size w w':=by
 have hx0:=len_le_wRows x;obtain⟨A,c,us,rfl,_,_,hul,hA,hAr⟩:=ha;have HA:=ah hA
 have HAR:=ah hAr;clear hA hAr;obtain⟨n,hn⟩:=aj x.length;obtain⟨M,hM⟩:=aj (Csv.wRows x)
 rw[hn]at HA hul hx0⊢;rw[hM]at hw hx0;have HN:=ah hn;have HU:=ah hul;have HM:=ah hM
 have HC:=ah hm
 have hw0:0<w.heap.size:=by
  rcases wW 0 w.heap.size with h|h
  ·exact h
  unfold World.cell? at hm;simp[xY h]at hm
 clear hn hul hM hm;go_enter Tryz.func25,Tryz.ntmps25;go_wp2;have hB0:=Bld.fresh w
 go_loopg [11] n (fun g i wr=> ∃(k:Nat) (acc:Csv.F),k+g=n/\i=.int .i64 k/\Below w.heap.size w wr/\Bld w.heap.size w.heap.size acc wr/\Csv.print x=(Csv.print (x.drop k)).map (acc ++ ·)/\acc.length+Csv.wRows (x.drop k)<=M)
 case atStart=>
  exact⟨0,[],by omega,rfl,(Below.refl _ _).alloc (rM _) _,hB0,by simp,by have:=HM.out;simp[this]⟩
 obtain⟨k,acc,hk,rfl,hbel,hbld,hpr,hlen⟩:=hrel;have HK:=ah hk;have HBEL:=ah hbel
 have HB:=ah hbld;have HP:=ah hpr;clear hk hbel hbld hpr hB0;have hB:=HBEL.size
 cases gk with
 |zero=>
  obtain rfl:k=n:=by have:=HK.out;omega
  go_wp2_with ((go_at_call 55;refine(bld_string w.heap.size w.heap.size acc wr HB.out hB).mono ?_;rintro e w' ⟨rfl,hb2,hb3,hb4⟩))
  go_ret2
  refine⟨ret_eq ?_,HBEL.trans hb3⟩;rw[HP.out,uq (by have:=HN.out;omega)]
  simp[Csv.print,printVal]
 |succ g=>
  have hlt:k<n:=by have:=HK.out;omega
  obtain⟨b1,o1,u1,rfl,hb1,hx1,hc1⟩:=(HA.below HBEL.out).at_ hlt
  have hkx:k<x.length:=by have:=HN.out;omega
  have HD:Hid (x.drop k=x[k] :: x.drop (k+1)):=tJ hkx
  have hr1:=HAR.out k u1 _ hx1 (ay hkx);obtain⟨row,hrow⟩:=aj (x[k]);rw[hrow]at HD hr1
  rw[HD.out,wRows_cons]at hlen;obtain⟨A1,c1,hu1e,_,_,hR⟩:=hr1;subst hu1e
  have hl0:=len_le_wRow row;obtain⟨m1,hm1⟩:=aj row.length;rw[hm1]at hl0 hR hc1
  have HR:=ah hR;have HM1:=ah hm1;clear hR hx1 hrow hm1;have hkn:((k:Int))<n:=by omega
  by_cases he:m1=0
  ·subst he
   have:row=[]:=sH HM1.out;subst this;go_wp2
   go_ret2
   refine⟨ret_eq ?_,HBEL.out⟩;rw[HP.out,HD.out];rfl
  have hne0:((m1:Int) == 0)=false:=by simp;omega
  go_wp2
  go_loopg [20] m1 (fun g i wx=> ∃(j:Nat) (acc':Csv.F),j+g=m1/\i=.int .i64 j/\Below w.heap.size w wx/\Bld w.heap.size w.heap.size acc' wx/\acc++Csv.fieldsK 0 row=acc' ++ Csv.fieldsK j (row.drop j)/\acc'.length+Csv.wRow (row.drop j)<=acc.length+Csv.wRow row)
  case atStart=>exact⟨0,acc,by omega,rfl,HBEL.out,HB.out,by simp,by simp⟩
  obtain⟨j,acc',hj,rfl,hbel,hbld,hfl,hlen'⟩:=hrel;have HJ:=ah hj;have HB':=ah hbld
  have HF:=ah hfl;have HBEL':=ah hbel;have hB':=hbel.size
  clear hj hbld hfl hbel HB hB HBEL;cases gk with
  |zero=>
   obtain rfl:j=m1:=by have:=HJ.out;omega
   have HF2:Hid (acc++Csv.printRow row=acc' ++ [13,10]):=by
    refine ah ?_;have h1:=HF.out;rw[uq (by have:=HM1.out;omega)]at h1
    unfold Csv.printRow;rw[<-sV,h1];simp[Csv.fieldsK]
   have hl2:acc'.length+2<=acc.length+Csv.wRow row:=by
    have h1:=HF2.out;have h2:=uo List.length h1;have h3:=Csv.fieldsK_length row 0
    simp[Csv.printRow]at h2;omega
   have hacc:acc'.length<1073741824:=by omega
   go_wp2_with ((go_at_call 54;refine(bld_str w.heap.size w.heap.size acc' ⟨#[13,10]⟩ _ HB'.out (by decide) hacc hB').mono ?_;rintro e w' ⟨rfl,hb2,hb3,hb4⟩))
   go_roundg g
   case measure=>omega
   refine⟨k+1,acc' ++ [13,10],by have:=HK.out;omega,by go_num,HBEL'.out.trans hb3,hb2, ?_, ?_⟩
   ·have hrn:row≠ []:=fun e=>by rw[e]at HM1;exact he HM1.symm
    rw[HP.out,HD.out,Csv.print,rU hrn,Option.map_map]
    congr 1
    funext t
    simp only[Function.comp];rw[<-sV,HF2.out]
   simp;omega
  |succ g'=>
   have hlt':j<m1:=by have:=HJ.out;omega
   obtain⟨b2,o2,u2,rfl,hb2,hx2,hc2⟩:=(HR.below HBEL'.out).at_ hlt'
   have hjx:j<row.length:=by have:=HM1.out;omega
   have HD':Hid (row.drop j=row[j] :: row.drop (j+1)):=tJ hjx;rw[tu,ay hjx]at hx2
   obtain rfl:=tN hx2;obtain⟨f,hf⟩:=aj (row[j]);rw[hf]at HD' hc2
   rw[HD'.out,csvRow_cons]at hlen';unfold S at hc2;have hjn:((j:Int))<m1:=by omega
   clear hx2 hf
   have hcell: ∀w2,Below w.heap.size wr w2->w2.cell? ⟨0,0,none⟩=some (.int .i64 m):=fun w2 h=>(HBEL'.out.trans h|>.cell hw0).trans HC.out
   have hfs:f.length<268435456:=by omega
   have hca: ∀wx:World,Calls Tryz.prog 59 #[.string ⟨f.toArray⟩,.string ⟨#[34,44,13,10]⟩] wx fun e w'=>e=.returned (.bool (f.any Csv.special))/\Below wx.heap.size wx w':=fun wx=>
    (containsAny_any ⟨f.toArray⟩ ⟨#[34,44,13,10]⟩ wx (by simp[ByteArray.size];omega) (by decide) (by decide) (fun j b h=>(show∀b∈([34,44,13,10]:List UInt8),b.toNat<128 by decide) b (sK h))).mono fun e w' ⟨h1,h2⟩=>⟨by rw[h1,<-any_special f],h2⟩
   have hra: ∀wx:World,wx.cell? ⟨0,0,none⟩=some (.int .i64 m)->Calls Tryz.prog 60 #[.string ⟨f.toArray⟩,.string ⟨#[34]⟩,.string ⟨#[34,34]⟩] wx fun e w'=>e=.returned (.string ⟨(Csv.esc f).toArray⟩)/\Below wx.heap.size wx w':=fun wx h=>
    (Tryz.strings_ReplaceAll ⟨f.toArray⟩ ⟨#[34]⟩ ⟨#[34,34]⟩ m wx (by simp[ByteArray.size];omega) h (by decide) (by
     have:=Lib.countB_le (⟨#[34]⟩:ByteArray) (by decide) (⟨f.toArray⟩:ByteArray).size ⟨f.toArray⟩ (rM _)
     have h2:(⟨f.toArray⟩:ByteArray).size=f.length:=by simp[ByteArray.size]
     have h3:(⟨#[34,34]⟩:ByteArray).size=2:=rfl;rw[h2]at this⊢;rw[h3]
     omega)).mono fun e w' ⟨h1,h2⟩=>⟨by rw[h1,replB],h2⟩
   obtain⟨E,hE⟩:=aj (⟨(Csv.esc f).toArray⟩:ByteArray)
   have hEs:E.size<1000000000:=by rw[<-hE];have:=Csv.esc_length f;simp[ByteArray.size];omega
   rw[hE]at hra;have HE:=ah hE;clear hE;have HCA:=ah hca;have HRA:=ah hra
   have HCE:=ah hcell;have hpl:=Csv.printF_length f;clear hca hra hcell
   have hkk: ∀(acc2:Csv.F),acc2=acc' ++(if 0<j then[44] else[])++Csv.printF f->acc++Csv.fieldsK 0 row=acc2++Csv.fieldsK (j+1) (row.drop (j+1))/\acc2.length+Csv.wRow (row.drop (j+1))<=acc.length+Csv.wRow row:=fun acc2 e=>by
    refine⟨by rw[HF.out,HD'.out,fieldsK_cons,e];simp[sV], ?_⟩
    rw[e];have:(if 0<j then[44] else([]:Csv.F)).length<=1:=by split<;>simp
    simp only[rP];omega
   have HKK:=ah hkk;clear hkk;obtain⟨sep,hsep⟩:=aj ((if 0<j then[44] else[]):Csv.F)
   rw[hsep]at HKK;have hsl:sep.length<=1:=by rw[<-hsep];split<;>simp
   obtain⟨pf,hpf⟩:=aj (Csv.printF f:Csv.F);rw[hpf]at HKK hpl;have HPF:=ah hpf
   obtain⟨sp,hspe⟩:=aj (f.any Csv.special);rw[hspe]at HCA
   have hacc:acc'.length+1<1073741824:=by omega
   clear hpf
   rcases uY j with hj0|hj0
   ·have hse:sep=[]:=by rw[<-hsep,rU (by omega)]
    have hjz:decide (0<j)=false:=by simp;omega
    subst hse;clear hsep hj0
    have HB1:Hid (Bld w.heap.size w.heap.size (acc' ++ []) wr):=by rw[tC];exact HB'
    have HBE1:=HBEL';clear HB' HBEL' hB';cases sp with
    |true=>
     have HPE:Hid (((⟨#[34]⟩:ByteArray)++E ++⟨#[34]⟩)=⟨pf.toArray⟩):=by
      refine ah ?_;rw[<-HPF.out,Csv.printF,rY hspe,<-HE.out]
      apply vI
      simp
     clear hspe
     go_wp2_with (go_at_call 59;refine(HCA.out _).mono ?_;rintro e w2 ⟨rfl,hbc⟩)
     have HB2:=ah (HB1.below hbc)
     have HBE2:Hid (Below w.heap.size w w2):=HBE1.trans (hbc.mono HBE1.size)
     have HM2:Hid (w2.cell? ⟨0,0,none⟩=some (.int .i64 m)):=(HBE2.cell hw0).trans HC.out
     have hsz2:=HBE2.size;clear hbc HB1 HBE1
     go_wp2_with (go_at_call 60;refine(HRA.out _ HM2.out).mono ?_;rintro e w3 ⟨rfl,hbc⟩)
     have HB3:=ah (HB2.below hbc)
     have HBE3:Hid (Below w.heap.size w w3):=HBE2.trans (hbc.mono hsz2);clear hbc
     have HKK2:=ah (HKK.out (acc' ++ []++pf) rfl)
     go_wp2_with (go_at_call 54;refine(bld_str w.heap.size w.heap.size (acc' ++ []) _ _ HB3.out (by rw[HPE.out];simp[ByteArray.size];omega) (by simp;omega) HBE3.size).mono ?_;rintro e w4 ⟨rfl,hb2,hb3,hb4⟩)
     rw[HPE.out]at hb2
     go_roundg g'
     case measure=>omega
     exact⟨j+1,acc' ++ []++pf,by have:=HJ.out;omega,by go_num,HBE3.trans hb3,hb2,HKK2.out.1,HKK2.out.2⟩
    |false=>
     have HPE:Hid (f=pf):=by
      refine ah ?_;rw[<-HPF.out,Csv.printF,rU (by rw[hspe];simp)]
     clear hspe
     go_wp2_with (go_at_call 59;refine(HCA.out _).mono ?_;rintro e w2 ⟨rfl,hbc⟩)
     have HB2:=ah (HB1.below hbc)
     have HBE2:Hid (Below w.heap.size w w2):=HBE1.trans (hbc.mono HBE1.size)
     clear hbc HB1 HBE1;have HKK2:=ah (HKK.out (acc' ++ []++pf) rfl)
     go_wp2_with (go_at_call 54;refine(bld_str w.heap.size w.heap.size (acc' ++ []) _ _ HB2.out (by rw[HPE.out];simp[ByteArray.size];omega) (by simp;omega) HBE2.size).mono ?_;rintro e w4 ⟨rfl,hb2,hb3,hb4⟩)
     rw[HPE.out]at hb2
     go_roundg g'
     case measure=>omega
     exact⟨j+1,acc' ++ []++pf,by have:=HJ.out;omega,by go_num,HBE2.trans hb3,hb2,HKK2.out.1,HKK2.out.2⟩
   have hse:sep=[44]:=by rw[<-hsep,rY (by omega)]
   have hjz:decide (0<j)=true:=by simp;omega
   subst hse;clear hsep hj0;cases sp with
   |true=>
    have HPE:Hid (((⟨#[34]⟩:ByteArray)++E ++⟨#[34]⟩)=⟨pf.toArray⟩):=by
     refine ah ?_;rw[<-HPF.out,Csv.printF,rY hspe,<-HE.out]
     apply vI
     simp
    clear hspe
    go_wp2_with (go_at_call 58;refine(bld_byte w.heap.size w.heap.size acc' 44 _ HB'.out (by decide) (by decide) (by omega) hB').mono ?_;rintro e w1 ⟨rfl,hb2,hb3,hb4⟩)
    have HB1:Hid (Bld w.heap.size w.heap.size (acc' ++ [44]) w1):=hb2
    have HBE1:Hid (Below w.heap.size w w1):=HBEL'.out.trans hb3
    clear hb2 hb3 hb4 HBEL' hB' HB'
    go_wp2_with (go_at_call 59;refine(HCA.out _).mono ?_;rintro e w2 ⟨rfl,hbc⟩)
    have HB2:=ah (HB1.below hbc)
    have HBE2:Hid (Below w.heap.size w w2):=HBE1.trans (hbc.mono HBE1.size)
    have HM2:Hid (w2.cell? ⟨0,0,none⟩=some (.int .i64 m)):=(HBE2.cell hw0).trans HC.out
    have hsz2:=HBE2.size;clear hbc HB1 HBE1
    go_wp2_with (go_at_call 60;refine(HRA.out _ HM2.out).mono ?_;rintro e w3 ⟨rfl,hbc⟩)
    have HB3:=ah (HB2.below hbc)
    have HBE3:Hid (Below w.heap.size w w3):=HBE2.trans (hbc.mono hsz2);clear hbc
    have HKK2:=ah (HKK.out (acc' ++ [44]++pf) rfl)
    go_wp2_with (go_at_call 54;refine(bld_str w.heap.size w.heap.size (acc' ++ [44]) _ _ HB3.out (by rw[HPE.out];simp[ByteArray.size];omega) (by simp;omega) HBE3.size).mono ?_;rintro e w4 ⟨rfl,hb2,hb3,hb4⟩)
    rw[HPE.out]at hb2
    go_roundg g'
    case measure=>omega
    exact⟨j+1,acc' ++ [44]++pf,by have:=HJ.out;omega,by go_num,HBE3.trans hb3,hb2,HKK2.out.1,HKK2.out.2⟩
   |false=>
    have HPE:Hid (f=pf):=by
     refine ah ?_;rw[<-HPF.out,Csv.printF,rU (by rw[hspe];simp)]
    clear hspe
    go_wp2_with (go_at_call 58;refine(bld_byte w.heap.size w.heap.size acc' 44 _ HB'.out (by decide) (by decide) (by omega) hB').mono ?_;rintro e w1 ⟨rfl,hb2,hb3,hb4⟩)
    have HB1:Hid (Bld w.heap.size w.heap.size (acc' ++ [44]) w1):=hb2
    have HBE1:Hid (Below w.heap.size w w1):=HBEL'.out.trans hb3
    clear hb2 hb3 hb4 HBEL' hB' HB'
    go_wp2_with (go_at_call 59;refine(HCA.out _).mono ?_;rintro e w2 ⟨rfl,hbc⟩)
    have HB2:=ah (HB1.below hbc)
    have HBE2:Hid (Below w.heap.size w w2):=HBE1.trans (hbc.mono HBE1.size)
    clear hbc HB1 HBE1;have HKK2:=ah (HKK.out (acc' ++ [44]++pf) rfl)
    go_wp2_with (go_at_call 54;refine(bld_str w.heap.size w.heap.size (acc' ++ [44]) _ _ HB2.out (by rw[HPE.out];simp[ByteArray.size];omega) (by simp;omega) HBE2.size).mono ?_;rintro e w4 ⟨rfl,hb2,hb3,hb4⟩)
    rw[HPE.out]at hb2
    go_roundg g'
    case measure=>omega
    exact⟨j+1,acc' ++ [44]++pf,by have:=HJ.out;omega,by go_num,HBE2.trans hb3,hb2,HKK2.out.1,HKK2.out.2⟩
end Go.Proofs.YtanlehkalkafdaaGreatDoor
namespace Go.Proofs.YtanlehkalkafdaaGreatDoor.Cy
open Go
abbrev L:=List UInt8
end Go.Proofs.YtanlehkalkafdaaGreatDoor.Cy
namespace Go.Proofs.YtanlehkalkafdaaGreatDoor.Gr
open Go
theorem prevAt_succ {κ α:Type} (key:α->κ) (l:List α) (k:Nat):prevAt key l (k+1)=l[k]?.map key:=rfl
theorem prevAt_some {κ α:Type} {key:α->κ} {l:List α} {k:Nat} {a:α} (h:l[k]?=some a):prevAt key l (k+1)=some (key a):=by rw[prevAt_succ,h];rfl
structure PropGood (prev:Option L) (p:P):Prop where
 name:goodName p.key=true
 lt: ∀q,prev=some q-> ¬p.key<=q
 val:Cel.check p.val=0
theorem propWrong_zero {prev:Option L} {p:P}:propWrong prev p=0↔PropGood prev p:=by
 unfold propWrong
 constructor
 ·intro h
  split at h
  ·omega
  rename_i h1
  split at h
  ·omega
  rename_i h2;refine⟨by simpa using h1,fun q hq=> ?_,h⟩
  subst hq
  simpa using h2
 intro h;rw[rU (by rw[h.name];decide),rU,h.val]
 cases prev with
 |none=>simp
 |some q=>simpa using h.lt q rfl
structure PropsGood (ps:List P):Prop where
 len:ps.length<=16
 all: ∀(j:Nat) p,ps[j]?=some p->PropGood (prevAt P.key ps j) p
theorem propsWrong_zero {ps:List P}:propsWrong ps=0↔PropsGood ps:=by
 unfold propsWrong
 constructor
 ·intro h
  split at h
  ·omega
  exact⟨by omega,fun j p hp=>propWrong_zero.1 (first_all propWrong P.key h j p hp)⟩
 intro h
 rw[rU (by have:=h.len;omega),first_zero propWrong P.key fun j p hp=>propWrong_zero.2 (h.all j p hp)]
theorem PropsGood.val {ps:List P} (h:PropsGood ps): ∀p∈ps,Cel.check p.val=0:=fun p hp=>by
 obtain⟨j,hj,e⟩:=uV hp;exact(h.all j p (by rw[ay hj,e])).val
theorem PropsGood.name {ps:List P} (h:PropsGood ps): ∀p∈ps,goodName p.key=true:=fun p hp=>by
 obtain⟨j,hj,e⟩:=uV hp;exact(h.all j p (by rw[ay hj,e])).name
structure LabelGood (prev:Option L) (l:L):Prop where
 name:goodName l=true
 lt: ∀q,prev=some q-> ¬l<=q
theorem labelWrong_zero {prev:Option L} {l:L}:labelWrong prev l=0↔LabelGood prev l:=by
 unfold labelWrong
 constructor
 ·intro h
  split at h
  ·omega
  rename_i h1
  split at h
  ·omega
  rename_i h2;refine⟨by simpa using h1,fun q hq=> ?_⟩
  subst hq
  simpa using h2
 intro h;rw[rU (by rw[h.name];decide),rU]
 cases prev with
 |none=>simp
 |some q=>simpa using h.lt q rfl
structure LabelsGood (ls:List L):Prop where
 len:ls.length<=8
 all: ∀(j:Nat) l,ls[j]?=some l->LabelGood (prevAt id ls j) l
theorem labelsWrong_zero {ls:List L}:labelsWrong ls=0↔LabelsGood ls:=by
 unfold labelsWrong
 constructor
 ·intro h
  split at h
  ·omega
  exact⟨by omega,fun j p hp=>labelWrong_zero.1 (first_all labelWrong id h j p hp)⟩
 intro h
 rw[rU (by have:=h.len;omega),first_zero labelWrong id fun j p hp=>labelWrong_zero.2 (h.all j p hp)]
structure NodeGood (prev:Option Int) (n:N):Prop where
 lo:0<=n.id
 hi:n.id<1024
 lt: ∀q,prev=some q->q<n.id
 labels:LabelsGood n.labels
 props:PropsGood n.props
theorem nodeWrong_zero {prev:Option Int} {n:N}:nodeWrong prev n=0↔NodeGood prev n:=by
 unfold nodeWrong
 constructor
 ·intro h
  split at h
  ·omega
  rename_i h1
  split at h
  ·omega
  rename_i h2
  split at h
  ·rename_i h3;exact absurd h h3
  rename_i h3
  refine⟨by omega,by omega,fun q hq=> ?_,labelsWrong_zero.1 (Decidable.not_not.1 h3),propsWrong_zero.1 h⟩
  subst hq;simp at h2;omega
 intro h
 rw[rU (by have:=h.lo;have:=h.hi;omega),rU,rU (by rw[labelsWrong_zero.2 h.labels];decide),propsWrong_zero.2 h.props]
 cases prev with
 |none=>simp
 |some q=>have:=h.lt q rfl;simp;omega
structure RelGood (ids:List Int) (prev:Option Int) (r:R):Prop where
 lo:0<=r.id
 hi:r.id<2048
 lt: ∀q,prev=some q->q<r.id
 name:goodName r.type=true
 src:r.src∈ids
 dst:r.dst∈ids
 props:PropsGood r.props
theorem relWrong_zero {ids:List Int} {prev:Option Int} {r:R}:relWrong ids prev r=0↔RelGood ids prev r:=by
 unfold relWrong
 constructor
 ·intro h
  split at h
  ·omega
  rename_i h1
  split at h
  ·omega
  rename_i h2
  split at h
  ·omega
  rename_i h3
  split at h
  ·omega
  rename_i h4;simp only[yS,Decidable.not_not]at h4
  refine⟨by omega,by omega,fun q hq=> ?_,by simpa using h3,h4.1,h4.2,propsWrong_zero.1 h⟩
  subst hq;simp at h2;omega
 intro h
 rw[rU (by have:=h.lo;have:=h.hi;omega),rU,rU (by rw[h.name];decide),rU (by simp[h.src,h.dst]),propsWrong_zero.2 h.props]
 cases prev with
 |none=>simp
 |some q=>have:=h.lt q rfl;simp;omega
theorem up_ge {α:Type} {key:α->Int} {l:List α} (h: ∀(j:Nat) a,l[j]?=some a->0<=key a/\ ∀q,prevAt key l j=some q->q<key a): ∀(j:Nat) a,l[j]?=some a->(j:Int)<=key a
 |0,a,ha=>(h 0 a ha).1
 |j+1,a,ha=>by
  have hj:j<l.length:=by have:=(rZ.1 ha).1;omega
  have hb:=ay hj;have:=up_ge h j _ hb;have:=(h (j+1) a ha).2 _ (prevAt_some hb);omega
theorem up_len {α:Type} {key:α->Int} {l:List α} {m:Nat} (h: ∀(j:Nat) a,l[j]?=some a->0<=key a/\ ∀q,prevAt key l j=some q->q<key a) (hm: ∀a∈l,key a<m):l.length<=m:=by
 rcases wW m l.length with hlt|hge
 ·have hb:=ay hlt
  have:=up_ge h m _ hb;have:=hm _ (sK hb);omega
 exact hge
theorem sum_flat {α β:Type} {f:α->List β} {c:Nat}: ∀{l:List α},(∀a∈l,(f a).length<=c)->(l.flatMap f).length<=c*l.length
 |[],_=>by simp
 |a :: l,h=>by
  have:=sum_flat fun b hb=>h b (uD.2 (.inr hb))
  have:=h a (uD.2 (.inl rfl));simp only[uK,rP,sS];rw[Nat.mul_succ];omega
structure NodesGood (ns:List N):Prop where
 all: ∀(j:Nat) n,ns[j]?=some n->NodeGood (prevAt N.id ns j) n
structure RelsGood (ids:List Int) (rs:List R):Prop where
 all: ∀(j:Nat) r,rs[j]?=some r->RelGood ids (prevAt R.id rs j) r
theorem NodesGood.mem {ns:List N} (h:NodesGood ns) {n:N} (hn:n∈ns): ∃prev,NodeGood prev n:=by
 obtain⟨j,hj,e⟩:=uV hn;exact⟨_,h.all j n (by rw[ay hj,e])⟩
theorem RelsGood.mem {ids:List Int} {rs:List R} (h:RelsGood ids rs) {r:R} (hn:r∈rs): ∃prev,RelGood ids prev r:=by
 obtain⟨j,hj,e⟩:=uV hn;exact⟨_,h.all j r (by rw[ay hj,e])⟩
theorem NodesGood.len {ns:List N} (h:NodesGood ns):ns.length<=1024:=
 up_len (key:=N.id) (fun j a ha=>⟨(h.all j a ha).lo,(h.all j a ha).lt⟩) (fun a ha=>by obtain⟨_,hg⟩:=h.mem ha;exact hg.hi)
theorem RelsGood.len {ids:List Int} {rs:List R} (h:RelsGood ids rs):rs.length<=2048:=
 up_len (key:=R.id) (fun j a ha=>⟨(h.all j a ha).lo,(h.all j a ha).lt⟩) (fun a ha=>by obtain⟨_,hg⟩:=h.mem ha;exact hg.hi)
theorem NodesGood.labels_len {ns:List N} (h:NodesGood ns):(ns.flatMap N.labels).length<=8192:=by
 have:=sum_flat (f:=N.labels) (l:=ns) (c:=8) fun n hn=>by obtain⟨_,hg⟩:=h.mem hn;exact hg.labels.len
 have:=h.len;omega
theorem props_len {g:G} (h:NodesGood g.nodes) {ids:List Int} (k:RelsGood ids g.rels):(allProps g).length<=49152:=by
 have h1:=sum_flat (f:=N.props) (l:=g.nodes) (c:=16) fun n hn=>by obtain⟨_,hg⟩:=h.mem hn;exact hg.props.len
 have h2:=sum_flat (f:=R.props) (l:=g.rels) (c:=16) fun n hn=>by obtain⟨_,hg⟩:=k.mem hn;exact hg.props.len
 have:=h.len;have:=k.len;unfold allProps;rw[rP];omega
theorem props_val {g:G} (h:NodesGood g.nodes) {ids:List Int} (k:RelsGood ids g.rels): ∀p∈allProps g,Cel.check p.val=0:=fun p hp=>by
 unfold allProps at hp
 rcases tZ.1 hp with hp|hp
 ·obtain⟨n,hn,hq⟩:=uF.1 hp
  obtain⟨_,hg⟩:=h.mem hn;exact hg.props.val p hq
 obtain⟨n,hn,hq⟩:=uF.1 hp;obtain⟨_,hg⟩:=k.mem hn;exact hg.props.val p hq
structure Good (g:G):Prop where
 nodes:NodesGood g.nodes
 rels:RelsGood (g.nodes.map N.id) g.rels
 names:(dedup (names1 g)).length<=200/\(dedup (names2 g)).length<=200/\(dedup (names3 g)).length<=200
 weight:weight g<=262144
theorem check_place {g:G} (h:(check g).1=0):check g=(0,0):=by
 unfold check at h⊢
 split at h
 ·rename_i h1;exact absurd h h1
 rename_i h1;rw[rU h1]
 split at h
 ·rename_i h2;exact absurd h h2
 rename_i h2;rw[rU h2]
 split at h
 ·cases h
 rename_i h3;rw[rU h3]
 split at h
 ·cases h
 rename_i h4;rw[rU h4]
theorem check_good {g:G}:(check g).1=0↔Good g:=by
 unfold check
 constructor
 ·intro h
  split at h
  ·rename_i h1;exact absurd h h1
  rename_i h1
  split at h
  ·rename_i h2;exact absurd h h2
  rename_i h2
  split at h
  ·cases h
  rename_i h3
  split at h
  ·cases h
  rename_i h4
  refine⟨⟨fun j n hn=>nodeWrong_zero.1 (first_all nodeWrong N.id (Decidable.not_not.1 h1) j n hn)⟩,⟨fun j r hr=>relWrong_zero.1 (first_all _ R.id (Decidable.not_not.1 h2) j r hr)⟩,by omega,by omega⟩
 intro h
 rw[rU (by rw[first_zero nodeWrong N.id fun j n hn=>nodeWrong_zero.2 (h.nodes.all j n hn)];decide),
  rU (by rw[first_zero _ R.id fun j r hr=>relWrong_zero.2 (h.rels.all j r hr)];decide),rU (by have:=h.names;omega),rU (by have:=h.weight;omega)]
end Go.Proofs.YtanlehkalkafdaaGreatDoor.Gr
namespace Go.Proofs.YtanlehkalkafdaaGreatDoor.Cy
open Go
structure VGood (v:Cel.V):Prop where
 ck:Cel.check v=0
 num:Cel.In64 v.num
 nums: ∀n∈v.nums,Cel.In64 n
structure PGood (p:Gr.P):Prop where
 name:Gr.goodName p.key=true
 val:VGood p.val
structure NGood (n:Gr.N):Prop where
 lo:0<=n.id
 hi:n.id<1024
 labels: ∀l∈n.labels,Gr.goodName l=true
 props: ∀p∈n.props,PGood p
structure RGood (r:Gr.R):Prop where
 lo:0<=r.id
 hi:r.id<2048
 slo:0<=r.src
 shi:r.src<1024
 dlo:0<=r.dst
 dhi:r.dst<1024
 name:Gr.goodName r.type=true
 props: ∀p∈r.props,PGood p
end Go.Proofs.YtanlehkalkafdaaGreatDoor.Cy
