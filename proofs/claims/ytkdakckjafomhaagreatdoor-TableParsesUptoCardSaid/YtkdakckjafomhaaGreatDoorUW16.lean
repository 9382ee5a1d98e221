/- Contracts and plain laws,part 16. -/
import Derived.Test.YtkdakckjafomhaaGreatDoorUW11
import Derived.Test.YtkdakckjafomhaaGreatDoorUW15
set_option maxHeartbeats 64000000
set_option maxRecDepth 1000000
set_option linter.all false
namespace Go.Proofs.YtkdakckjafomhaaGreatDoor
open Go.RowKit
attribute [local go_sem] Oper.semAt_some
theorem ai3 (s:ByteArray) (w:World):
  Calls Tryz.prog 27 #[.string s] w fun e w'=>e=.returned (.func (.func 72) #[] #[.pointer (some ⟨w.heap.size,0,none⟩)])/\w.alloc (.cells #[.string s] 9)=w':=by
 go_enter Tryz.func27,Tryz.ntmps27;go_wp2;go_ret;exact⟨rfl,rfl⟩
def OwnRows (w:World) (B:Nat) (v:Value) (rows:List (List ay.F)):Prop:=
 ∃us:List Value,us.length=rows.length/\w.ownsRow B 34 1 v us.length us/\(∀(k:Nat) u r,us[k]?=some u->rows[k]?=some r->w.ownsRow B 9 1 u r.length (r.map S))/\
  (∀(i j:Nat) u u',i<j->us[i]?=some u->us[j]?=some u'->u.ownBlock=none\/u.ownBlock≠u'.ownBlock)
theorem OwnRows.nil (w:World) (B:Nat):OwnRows w B (.slice none 0 0) []:=⟨[],rfl,World.ownsRow_nil _ _ _ _,fun k u r h=>by simp at h,fun i j u u' _ h=>by simp at h⟩
theorem OwnRows.adF {w w':World} {B n₁:Nat} {v:Value} {rows:List (List ay.F)} (h:OwnRows w B v rows) (hs:aT 140 n₁ w w'):OwnRows w' B v rows:=by
 obtain⟨us,h1,h2,h3,h4⟩:=h
 exact⟨us,h1,hs.own h2 (by decide),fun k u r hu hr=>hs.own (h3 k u r hu hr) (by decide),h4⟩
theorem OwnRows.snoc {w:World} {B:Nat} {v u:Value} {us:List Value} {rows:List (List ay.F)} {fs:List ay.F} (h1:us.length=rows.length) (h2:w.ownsRow B 34 1 v (us.length+1) (us++[u]))
  (h3: ∀(k:Nat) u r,us[k]?=some u->rows[k]?=some r->w.ownsRow B 9 1 u r.length (r.map S)) (hu:w.ownsRow B 9 1 u fs.length (fs.map S))
  (h4: ∀(i j:Nat) u u',i<j->us[i]?=some u->us[j]?=some u'->u.ownBlock=none\/u.ownBlock≠u'.ownBlock) (h5: ∀(i:Nat) x,us[i]?=some x->x.ownBlock=none\/x.ownBlock≠u.ownBlock):OwnRows w B v (rows++[fs]):=by
 refine⟨us++[u],by simp[h1],by simpa using h2,fun k x r hx hr=> ?_,fun i j x x' hij hx hx'=> ?_⟩
 ·by_cases hk:k<us.length
  ·rw[aeZ hk]at hx
   rw[aeZ (by omega)]at hr
   exact h3 k x r hx hr
  rw[ae5 (by omega)]at hx
  rw[ae5 (by omega)]at hr
  have hk0:k - us.length=0:=by
   have:=(adw.1 hx).1
   simpa using this
  rw[<-h1,hk0]at hr;rw[hk0]at hx;simp at hx hr;subst hx hr;exact hu
 by_cases hj:j<us.length
 ·rw[aeZ (by omega)]at hx
  rw[aeZ hj]at hx';exact h4 i j x x' hij hx hx'
 rw[ae5 (by omega)]at hx'
 have hj0:j - us.length=0:=by
  have:=(adw.1 hx').1
  simpa using this
 rw[hj0]at hx';simp at hx';subst hx';rw[aeZ (by omega)]at hx
 exact h5 i x hx
theorem Ae:(Tryz.prog.info? 34).map (fun i=>(i.zero,i.size,i.bytes))=some (some (.slice none 0 0),1,24):=by kernel_rfl
def aaf (l:ay.F) (w:World) (e:Ending) (w':World):Prop:=
 ∃v,e=.returned (.tuple #[v,.int .i64 (ay.rowsOf l).2])/\Below w.heap.size w w'/\(if(ay.rowsOf l).2=0 then OwnRows w' w.heap.size v (ay.rowsOf l).1 else v=.slice none 0 0)
theorem aag (s:ByteArray) (hs:s.size<=16777216) (w:World):
  Calls Tryz.prog 9 #[.string s] w (aaf s.data.toList w):=by
 obtain⟨i0,hi,hz0,hz1,hz2⟩:=info_parts Ae;refine TR Tryz.func9 rfl ?_
 simp only[Tryz.ntmps9,ao9,adQ,ae8,Nat.reduceAdd,Nat.reduceSub,apZ,ap2,aqT,anH,aex,afq]
 go_wp2_with (go_at_call 27;refine(ai3 _ _).mono ?_;rintro e w' ⟨rfl,rfl⟩)
 obtain⟨W,hW⟩:=aj (((w.alloc (.cells #[.slice none 0 0] 47)).alloc (.cells #[.int .i64 0] 27)).alloc (.cells #[.string s] 9))
 have hsz:W.heap.size=w.heap.size+3:=by rw[<-hW];simp
 have b0:au W w.heap.size 47 #[.slice none 0 0]:=by rw[<-hW];exact((au.new _ _ _).alloc _).alloc _
 have b1:au W (w.heap.size+1) 27 #[.int .i64 0]:=by rw[<-hW];have:=((au.new (w.alloc (.cells #[.slice none 0 0] 47)) 27 #[.int .i64 0]).alloc (.cells #[.string s] 9));simpa using this
 have b2:au W (w.heap.size+2) 9 #[.string s]:=by rw[<-hW];have:=(au.new ((w.alloc (.cells #[.slice none 0 0] 47)).alloc (.cells #[.int .i64 0] 27)) 9 #[.string s]);simpa using this
 have bb:Below w.heap.size w W:=by rw[<-hW];exact(((Below.refl _ w).alloc (ac4 _) _).alloc (by simp) _).alloc (by simp;omega) _
 rw[hW];clear hW;refine(wpIn_wide (n:=9)).1 ?_
 refine ai0 140 (gf:=72) (lb:= #[.pointer (some ⟨w.heap.size+2,0,none⟩)]) rfl (enters_of Tryz.func72 (by kernel_rfl) rfl) (encs:=jk.enc) (fun x=>rfl) (Pre:=jk.Pre) ?La
  (fun W1 hb hn=>ai2 s (by omega) W.heap.size (w.heap.size+2) (by omega) W1 hn ((hb.cell (p:=⟨w.heap.size+2,0,none⟩) (by show w.heap.size+2<_;omega)).trans (b2.cell 0)))
  (fun pre V=>(∃vo,au V w.heap.size 47 #[vo]/\OwnRows V w.heap.size vo (pre.map (·.fs)))/\au V (w.heap.size+1) 27 #[.int .i64 0]/\au V (w.heap.size+2) 9 #[.string s]/\Below w.heap.size w V/\(∀y∈pre,y.e=0))
  (fun c V=>c=.ret/\(ay.rowsOf s.data.toList).2≠0/\au V w.heap.size 47 #[.slice none 0 0]/\au V (w.heap.size+1) 27 #[.int .i64 (ay.rowsOf s.data.toList).2]/\Below w.heap.size w V)
  ?hI ?hIx ?hAux ⟨⟨_,b0,OwnRows.nil _ _⟩,b1,b2,bb,by simp⟩
  (fun x=>{tmps:= #[.string s,undef,.pointer (some ⟨w.heap.size,0,none⟩),.pointer (some ⟨w.heap.size+1,0,none⟩),x.v,.int .i64 x.e,.string s,.func (.func 72) #[] #[.pointer (some ⟨w.heap.size+1+1,0,none⟩)],x.v,.int .i64 x.e,undef,undef,undef,undef,undef,undef,undef,undef],defers:=[]}) ?assign ?body ?done ?stop
 case La=>
  intro x W0 W l r r' h hl;unfold jk.Pre at h⊢
  split
  ·rename_i h0
   rw[adk h0]at h;exact(aT.putObj (T:=0) (n₁:=0) r' hl (by omega)).own h (by decide)
  rename_i h0;rw[ade h0]at h;exact h
 case hI=>
  rintro pre A B ⟨⟨vo,h1,h2⟩,h3,h4,h5,h6⟩ hs
  exact⟨⟨vo,hs.blk h1 (by decide),h2.adF hs⟩,hs.blk h3 (by decide),hs.blk h4 (by decide),h5.trans (hs.below (by omega) h5.size),h6⟩
 case hIx=>
  rintro c A B ⟨hc,h0,h1,h3,h5⟩ hs
  exact⟨hc,h0,hs.blk h1 (by decide),hs.blk h3 (by decide),h5.trans (hs.below (by omega) h5.size)⟩
 case hAux=>
  rintro pre V ⟨_,_,h4,_⟩;exact h4.cell 0
 case assign=>
  intro l x V K hK;simp only[jk.enc]
  gi_wp2
  exact hK
 case body=>
  rintro l pre x W0 V ⟨⟨vo,h1,h2⟩,h3,h4,h5,h6⟩ hs hpre hstep hl hn0
  have g1:=hs.blk h1 (show 47≠140 by decide)
  have g3:=hs.blk h3 (show 27≠140 by decide)
  have g4:=hs.blk h4 (show 9≠140 by decide)
  have g2:=h2.adF hs;have g5:=h5.trans (hs.below (by omega) h5.size)
  have c1:=g1.cell 0;have f1:=g1.frozen 0;have c3:=g3.cell 0;have f3:=g3.frozen 0
  simp at c1 c3;obtain⟨v,fs,e⟩:=x;by_cases he:e=0
  ·subst he
   unfold jk.Pre at hpre;rw[adk rfl]at hpre
   dsimp only at hpre
   clear g2;obtain⟨us,hu1,adG,VH,QA⟩:=h2;have hu2:=hs.own adG (show 34≠140 by decide)
   have hu3: ∀(k:Nat) u r,us[k]?=some u->(pre.map (·.fs))[k]?=some r->V.ownsRow w.heap.size 9 1 u r.length (r.map S):=fun k u r hu hr=>hs.own (VH k u r hu hr) (by decide)
   have Vl: ∀(i:Nat) x,us[i]?=some x-> ∀g,x.ownBlock=some g->g<W0.heap.size:=fun i x hx g hg=>by
    have hi:i<us.length:=(adw.1 hx).1
    have hr:(pre.map (·.fs))[i]?=some ((pre.map (·.fs))[i]'(by omega)):=dF (by omega)
    exact((VH i x _ hx hr).lt g hg).2
   have HUX:=ah Vl;clear Vl adG VH;obtain⟨Av,cv,rfl⟩:=aF hpre;obtain⟨Ao,co,rfl⟩:=aF hu2
   have HS:=ah hstep;have qQ:=ah g1;have vM:=ah g3;have Qy:=ah g4;have xQ:=ah g5
   have HW:=ah hsz;have aP:=ah hu2;have VI:=ah hu3;have VJ:=ah QA;have HU1:=ah hu1
   have HP:=ah hpre;have H6:=ah h6;have ani:w.heap.size<=W0.heap.size:=h5.size
   have hub:us.length<=16777216:=by
    have h8:=hstep.2.1;have h9:=ay.aiM s.data.toList;have h10:=Lib.size_eq s;rw[hu1,adU]
    omega
   clear hstep g1 g3 g4 h1 h3 h4 h5 h6 g5 hsz hu2 hu3 QA hpre hu1
   gi_wp2_with (gi_at_builtin;refine wpListIn_append_own _ rfl _ _ 47 rfl w.heap.size 34 i0 (.slice none 0 0) 1 24 Tryz.underlying47 hi hz0 hz1 hz2 rfl (by decide) _ _ _ rfl (World.ownsRow.alloc aP.out _) ⟨V.heap.size,0,none⟩ 1 1 [.slice Av fs.length cv] rfl rfl ?c1 ?c2 ?c3 ?c4 ?c5 ?_)
   case c1=>exact cell_one_new _ _ _
   case c2=>simp[Value.oneCell']
   case c3=>unfold maxLen;omega
   case c4=>omega
   case c5=>have:=xQ.size;simp;omega
   intro v' V2 hown' hgrow _;obtain⟨g',cap',rfl⟩:=ownsRow_succ hown'
   have hnb: ∀i,(Value.slice Ao us.length co).ownBlock=some i->w.heap.size<=i/\ ∃c fz,V.heap[i]?=some (.cells c 34 fz):=fun i e=>by
    refine⟨(World.ownsRow.lt aP.out i e).1, ?_⟩
    rcases aP.out.2 with⟨h,_⟩|⟨g,cap,cur,h,_,hh,_⟩
    ·rw[h]at e;simp[Value.ownBlock]at e
    rw[h]at e;simp[Value.ownBlock]at e;subst e;exact⟨_,_,hh⟩
   have hne: ∀(i b:Nat) (t:TypeId) (c:Array Value),(Value.slice Ao us.length co).ownBlock=some i->au V b t c->t≠34->i≠b:=fun i b t c e hb ht hib=>by
    subst hib;obtain⟨_,c',fz,hc⟩:=hnb i e;unfold au at hb;rw[hc]at hb;cases hb
    exact ht rfl
   have k1:au V2 w.heap.size 47 #[.slice Ao us.length co]:=au.grown (au.alloc qQ.out _) hgrow (fun e=>hne _ _ _ _ e.symm qQ.out (by decide) rfl)
   have k3:au V2 (w.heap.size+1) 27 #[.int .i64 0]:=au.grown (au.alloc vM.out _) hgrow (fun e=>hne _ _ _ _ e.symm vM.out (by decide) rfl)
   have k4:au V2 (w.heap.size+2) 9 #[.string s]:=au.grown (au.alloc Qy.out _) hgrow (fun e=>hne _ _ _ _ e.symm Qy.out (by decide) rfl)
   have k5:Below w.heap.size w V2:=(xQ.alloc xQ.size _).grown hgrow (by have:=xQ.size;simp;omega) (fun k e=>(hnb k e).1)
   have c2:=k1.cell 0;have f2:=k1.frozen 0;simp at c2;have bW:=ah k1;have dB:=ah k3
   have eY:=ah k4;have nZ:=ah k5;have vK:=ah hne;have iW:=ah hnb;have HOW:=ah hown'
   have Le:=ah hgrow;clear k1 k3 k4 k5 hne hnb hown' hgrow c1 f1 c3 f3
   gi_wp2
   have hset:=grownBy_set V2 ⟨w.heap.size,0,none⟩ (.slice (some ⟨g',0,none⟩) (us.length+1) cap')
   have VK: ∀g c t fz,some (⟨w.heap.size,0,none⟩:Addr).block=some g->V2.heap[g]?=some (.cells c t fz)->t=47:=fun g c t fz e hc=>by
    cases e;have:=bW.out;unfold au at this
    rw[show V2.heap[w.heap.size]?=some (.cells c t fz) from hc]at this
    cases this;rfl
   have adH: ∀g c t fz,(Value.slice Ao us.length co).ownBlock=some g->(V.alloc (.cells #[.slice Av fs.length cv] 34)).heap[g]?=some (.cells c t fz)->t=34:=fun g c t fz e hc=>by
    obtain⟨_,c',fz',hc'⟩:=iW.out g e;rw[Below.heap_alloc _ _ _ (adZ.1 hc').1,hc']at hc
    cases hc;rfl
   have inner: ∀{u:Value} {r:List ay.F} {B:Nat},V.ownsRow B 9 1 u r.length (r.map S)->(V2.setCell ⟨w.heap.size,0,none⟩ (.slice (some ⟨g',0,none⟩) (us.length+1) cap')).ownsRow B 9 1 u r.length (r.map S):=fun h=>
    aW (aW (World.ownsRow.alloc h _) Le.out (fun g c t fz e hc=>by rw[adH g c t fz e hc];decide)) hset (fun g c t fz e hc=>by rw[VK g c t fz e hc];decide)
   refine⟨((KeepsOthers.alloc _ _).from _).trans (((KeepsOthers.of_grownBy Le.out (fun j o e ho=> ?_)).from _).trans ((KeepsOthers.setCell _ _ _).from _)), ?_,⟨_,au.bP bW.out 0 _, ?_⟩,au.far dB.out (by simp) _,au.far eY.out (by simp) _,nZ.setCell (p:=⟨w.heap.size,0,none⟩) (ac4 _) _, ?_⟩
   ·obtain⟨_,c',fz',hc'⟩:=iW.out j e
    rw[Below.heap_alloc _ _ _ (adZ.1 hc').1,hc']at ho;cases ho;rfl
   ·refine(kR.Ad (World.grownBy_alloc _ _ none) (fun g c fz e=>by cases e)).trans ((kR.Ad Le.out (fun g c fz e hc=> ?_)).trans (kR.Ad hset (fun g c fz e hc=> ?_)))
    ·exact absurd (adH g c _ fz e hc) (by decide)
    exact absurd (VK g c _ fz e hc) (by decide)
   ·rw[ad8]
    refine OwnRows.snoc HU1.out (aW HOW.out hset (fun g c t fz e hc=>by rw[VK g c t fz e hc];decide)) (fun k u r hu hr=>inner (VI.out k u r hu hr)) (own_base (inner HP.out) ani) VJ.out (fun i x hx=> ?_)
    cases hxb:x.ownBlock with
    |none=>exact .inl rfl
    |some g=>
     refine .inr (fun e=> ?_)
     have h8:=HUX.out i x hx g hxb;have h9:=(tY HP.out g e.symm).1;omega
   intro y hy
   rcases aem.1 hy with h|h
   ·exact H6.out y h
   rw[ael.1 h]
  have heb:((e:Int) !=0)=true:=by rw[adY];omega
  unfold jk.Pre at hpre;rw[ade he]at hpre;obtain⟨rfl,rfl⟩:=hpre;have HS:=ah hstep
  have qQ:=ah g1;have vM:=ah g3;have xQ:=ah g5;have HW:=ah hsz
  clear hstep g1 g2 g3 g4 h1 h2 h3 h4 h5 h6 g5 hsz
  gi_wp2
  have h9:(ay.rowsOf s.data.toList).2=e:=by
   have:=HS.out.2.2.2;rw[ade he]at this;exact this.2
  refine⟨((KeepsOthers.setCell _ _ _).from _).trans ((KeepsOthers.setCell _ _ _).from _),rfl,by rw[h9];exact he, ?_, ?_, ?_⟩
  ·exact au.far (au.bP qQ.out 0 _) (by simp) _
  ·rw[h9]
   exact au.bP (au.far vM.out (by simp) _) 0 _
  exact((xQ.out).setCell (p:=⟨w.heap.size,0,none⟩) (ac4 _) _).setCell (p:=⟨w.heap.size+1,0,none⟩) (by simp) _
 case done=>
  rintro D xs V hD hend ⟨⟨vo,h1,h2⟩,h3,h4,h5,h6⟩ hK
  have hdone:(ay.rowsOf s.data.toList).2=0/\xs.map (·.fs)=(ay.rowsOf s.data.toList).1:=by
   rcases hend with⟨q1,_,q3⟩|⟨q,x,rfl,hx,_⟩
   ·exact⟨q1,q3⟩
   exact absurd (h6 x (by simp)) hx
  have h2':=h2;obtain⟨us,hu1,hu2,hu3,QA⟩:=h2;obtain⟨Ao,co,rfl⟩:=aF hu2
  have c1:=h1.cell 0;have f1:=h1.frozen 0;have c3:=h3.cell 0;have f3:=h3.frozen 0
  simp at c1 c3;have HD:=ah hdone;have H1:=ah h1;have H2:=ah h2';have H3:=ah h3
  have H5:=ah h5;have vN:=ah hK;have fF:=ah hsz
  clear hdone h1 h3 h4 h5 h6 hend hK hu1 hu2 hu3 QA h2' hsz;go_wp2
  have n0:D≠w.heap.size:=by have:=fF.out;omega
  have n1:D≠w.heap.size+1:=by have:=fF.out;omega
  have hK2:((V.setCell ⟨w.heap.size,0,none⟩ (.slice Ao us.length co)).setCell ⟨w.heap.size+1,0,none⟩ (.int .i64 0)).heap[D]?=some (.deferred (some [])):=by
   rw[Below.heap_setCell _ _ _ _ n1,Below.heap_setCell _ _ _ _ n0];exact vN.out
  have B1:=JR (o:=.deferred none) hK2 (au.far (au.bP H1.out 0 (.slice Ao us.length co)) (p:=⟨w.heap.size+1,0,none⟩) (by simp) (.int .i64 0))
  have B3:=JR (o:=.deferred none) hK2 (au.bP (au.far H3.out (p:=⟨w.heap.size,0,none⟩) (by simp) (.slice Ao us.length co)) 0 (.int .i64 0))
  have q1:=B1.cell 0;have q3:=B3.cell 0;simp at q1 q3
  refine Pn hK2 (v:=.tuple #[.slice Ao us.length co,.int .i64 0]) (by simp[results,Tryz.results9,go_sem,q1,q3]) ?_
  have keep: ∀{e n:Nat} {v:Value} {xs:List Value},e≠47->e≠27->V.ownsRow w.heap.size e 1 v n xs->(((V.setCell ⟨w.heap.size,0,none⟩ (.slice Ao us.length co)).setCell ⟨w.heap.size+1,0,none⟩ (.int .i64 0)).putObj D (.deferred none)).ownsRow w.heap.size e 1 v n xs:=fun he1 he2 h=>
   aae hK2 (aW (aW h (grownBy_set _ _ _) (fun g c t fz e hc=>by
    cases e;have:=H1.out;unfold au at this
    rw[show V.heap[w.heap.size]?=some (.cells c t fz) from hc]at this
    cases this
    exact Ne.symm he1)) (grownBy_set _ _ _) (fun g c t fz e hc=>by
    cases e
    have:=au.far H3.out (p:=⟨w.heap.size,0,none⟩) (by simp) (.slice Ao us.length co)
    unfold au at this
    rw[show(V.setCell ⟨w.heap.size,0,none⟩ (.slice Ao us.length co)).heap[w.heap.size+1]?=some (.cells c t fz) from hc]at this
    cases this
    exact Ne.symm he2))
  obtain⟨us',p1,p2,p3,p4⟩:=H2.out
  refine⟨_,by rw[HD.out.1];rfl,Pm ((H5.setCell (p:=⟨w.heap.size,0,none⟩) (ac4 _) _).setCell (p:=⟨w.heap.size+1,0,none⟩) (by simp) _) (by have:=fF.out;omega), ?_⟩
  rw[adk HD.out.1,<-HD.out.2]
  exact⟨us',p1,keep (by decide) (by decide) p2,fun k u r hu hr=>keep (by decide) (by decide) (p3 k u r hu hr),p4⟩
 rintro D c V hD ⟨rfl,h0,h1,h3,h5⟩ hK;refine wpIn_wide.2 ?_;have H1:=ah h1;have H3:=ah h3
 have H5:=ah h5;have vN:=ah hK;have H0:=ah h0;have fF:=ah hsz;clear h0 h1 h3 h5 hK hsz
 go_wp2;have B1:=JR (o:=.deferred none) vN.out H1.out
 have B3:=JR (o:=.deferred none) vN.out H3.out;have q1:=B1.cell 0;have q3:=B3.cell 0
 simp at q1 q3
 refine Pn vN.out (v:=.tuple #[.slice none 0 0,.int .i64 (ay.rowsOf s.data.toList).2]) (by simp[results,Tryz.results9,go_sem,q1,q3]) ?_
 exact⟨_,rfl,Pm H5.out (by have:=fF.out;omega),by rw[ade H0.out]⟩
end Go.Proofs.YtkdakckjafomhaaGreatDoor
namespace Go.Proofs.YtkdakckjafomhaaGreatDoor
open Go.RowKit
def Row1 (w:World) (B:Nat) (v:Value) (ss:List ay.F):Prop:=
 ∃A c,v=.slice A ss.length c/\ss.length<=c/\c<=maxLen/\Reads w B 1 A ss.length (ss.map S)
def kY (w:World) (B:Nat) (v:Value) (rows:List (List ay.F)):Prop:=
 ∃A c us,v=.slice A rows.length c/\rows.length<=c/\c<=maxLen/\us.length=rows.length/\Reads w B 1 A rows.length us/\ ∀(k:Nat) u r,us[k]?=some u->rows[k]?=some r->Row1 w B u r
section
variable {w w':World} {B B':Nat} {v:Value} {ss:List ay.F} {rows:List (List ay.F)}
theorem Row1.below (h:Row1 w B v ss) (hb:Below B w w'):Row1 w' B v ss:=by
 obtain⟨A,c,h1,h2,h3,h4⟩:=h;exact⟨A,c,h1,h2,h3,h4.below hb⟩
theorem kY.below (h:kY w B v rows) (hb:Below B w w'):kY w' B v rows:=by
 obtain⟨A,c,us,h1,h2,h3,h4,h5,h6⟩:=h
 exact⟨A,c,us,h1,h2,h3,h4,h5.below hb,fun k u r hu hr=>(h6 k u r hu hr).below hb⟩
theorem Row1.dI {base:Nat} (h:w.ownsRow base 9 1 v ss.length (ss.map S)):Row1 w w.heap.size v ss:=by
 rcases h.2 with⟨rfl,hn⟩|⟨g,cap,cur,rfl,hb,hg,h1,h2,h3⟩
 ·refine⟨none,0,by rw[hn],by omega,by unfold maxLen;omega, ?_⟩
  have:ss=[]:=adB hn;subst this;exact Reads.none_
 exact⟨_,cap,rfl,h1,h2,Reads.dI (c:=cap) h⟩
theorem kY.dI {base:Nat} (h:OwnRows w base v rows):kY w w.heap.size v rows:=by
 obtain⟨us,h1,h2,h3,h4⟩:=h
 rcases h2.2 with⟨rfl,hn⟩|⟨g,cap,cur,rfl,hb,hg,q1,q2,q3⟩
 ·have hr:rows=[]:=adB (by omega)
  subst hr;have hu:us=[]:=adB hn;subst hu
  exact⟨none,0,[],rfl,by simp,by unfold maxLen;omega,rfl,Reads.none_,fun k u r hu=>by simp at hu⟩
 refine⟨_,cap,us,by rw[<-h1],by omega,q2,h1, ?_,fun k u r hu hr=>Row1.dI (h3 k u r hu hr)⟩
 rw[<-h1];exact Reads.dI (c:=cap) h2
end
end Go.Proofs.YtkdakckjafomhaaGreatDoor
namespace Go.Proofs.YtkdakckjafomhaaGreatDoor
open Go.RowKit Go.Lib
theorem ai4 (s cs:ByteArray) (w:World) (hs:s.size<4294967281) (h2:2<=cs.size) (hc:cs.size<=1048576) (hascii: ∀(j:Nat) b,cs.data.toList[j]?=some b->b.toNat<128):
  Calls Tryz.prog 70 #[.string s,.string cs] w fun e w'=>e=.returned (.bool (Lib.containsAny s.data.toList cs.data.toList))/\Below w.heap.size w w':=by
 have HA:=ah hascii;clear hascii;go_enter Tryz.func70,Tryz.ntmps70
 go_wp2_with (go_at_call 111;refine(Ij _ _ _ hs h2 hc HA.out).mono ?_;rintro e w' ⟨rfl,hb⟩)
 go_ret;exact⟨rfl,hb⟩
end Go.Proofs.YtkdakckjafomhaaGreatDoor
namespace Go.Proofs.YtkdakckjafomhaaGreatDoor
open Go.RowKit
def printVal (k:Int):Option ay.F->Value
 |none=> .tuple #[.string ⟨#[]⟩,.int .i64 k]
 |some t=> .tuple #[.string ⟨t.toArray⟩,.int .i64 0]
theorem ai5 (f:ay.F):ay.esc f=kW 34 [34,34] f:=rfl
theorem ai6 (f:ay.F):(⟨(Lib.replaceAll (⟨f.toArray⟩:ByteArray).data.toList (⟨#[34]⟩:ByteArray).data.toList (⟨#[34,34]⟩:ByteArray).data.toList).toArray⟩:ByteArray)=⟨(ay.esc f).toArray⟩:=by
 rw[ai5,<-Zx f 34 [34,34] (by decide)]
theorem aah (r:List ay.F) (rs:List (List ay.F)):ay.oJ (r :: rs)=ay.wRow r+ay.oJ rs:=by simp[ay.oJ]
theorem aai (f:ay.F) (r:List ay.F):ay.wRow (f :: r)=2*f.length+3+ay.wRow r:=by simp[ay.wRow];omega
theorem ai7 (k:Nat) (f:ay.F) (r:List ay.F):ay.jv k (f :: r)=(if 0<k then[44] else[])++ay.qH f++ay.jv (k+1) r:=rfl
theorem ai8 (r:List ay.F):r.length<=ay.wRow r:=by
 induction r with
 |nil=>simp
 |cons f r ih=>rw[aai];simp;omega
theorem ai9 (rs:List (List ay.F)):rs.length<=ay.oJ rs:=by
 induction rs with
 |nil=>simp
 |cons r rs ih=>
  rw[aah];have:2<=ay.wRow r:=by simp[ay.wRow]
  simp;omega
theorem aja (f:ay.F):Lib.containsAny f [34,44,13,10]=f.any ay.special:=by
 unfold Lib.containsAny
 induction f with
 |nil=>rfl
 |cons b f ih=>
  have hb:([34,44,13,10]:List UInt8).contains b=ay.special b:=by
   unfold ay.special
   cases h1:b == 34<;>cases h2:b == 44<;>cases h3:b == 13<;>cases h4:b == 10<;>simp only[List.contains_cons,List.contains_nil,h1,h2,h3,h4]<;>rfl
  have hge:=Lib.indexAny_ge [34,44,13,10] f;rw[Lib.indexAny,arz,<-ih,hb]
  cases ay.special b with
  |true=>simp
  |false=>
   rw[ade (by simp),Bool.false_or]
   split
   ·rename_i h;rw[eq_of_beq h]
   rename_i h;have:Lib.indexAny f [34,44,13,10]≠ -1:=fun e=>h (by rw[e];rfl)
   simp only[decide_eq_decide];omega
theorem ajb (a:Value) (x:List (List ay.F)) (w:World) (m:Int) (ha:kY w w.heap.size a x) (hm:w.cell? ⟨0,0,none⟩=some (.int .i64 m)) (hw:ay.oJ x<=268435456):
  Calls Tryz.prog 26 #[a] w fun e w'=>e=.returned (printVal 2 (ay.print x))/\Below w.heap.size w w':=by
 have hx0:=ai9 x;obtain⟨A,c,us,rfl,_,_,Lh,hA,hAr⟩:=ha;have HA:=ah hA;have HAR:=ah hAr
 clear hA hAr;obtain⟨n,hn⟩:=aj x.length;obtain⟨M,hM⟩:=aj (ay.oJ x);rw[hn]at HA Lh hx0⊢
 rw[hM]at hw hx0;have HN:=ah hn;have HU:=ah Lh;have HM:=ah hM;have HC:=ah hm
 have hw0:0<w.heap.size:=by
  rcases am5 0 w.heap.size with h|h
  ·exact h
  unfold World.cell? at hm;simp[aog h]at hm
 clear hn Lh hM hm;go_enter Tryz.func26,Tryz.ntmps26;go_wp2;have hB0:=dP.fresh w
 go_loopg [11] n (fun g i wr=> ∃(k:Nat) (acc:ay.F),k+g=n/\i=.int .i64 k/\Below w.heap.size w wr/\dP w.heap.size w.heap.size acc wr/\ay.print x=(ay.print (x.drop k)).map (acc ++ ·)/\acc.length+ay.oJ (x.drop k)<=M)
 case atStart=>
  exact⟨0,[],by omega,rfl,(Below.refl _ _).alloc (ac4 _) _,hB0,by simp,by have:=HM.out;simp[this]⟩
 obtain⟨k,acc,hk,rfl,hbel,ny,hpr,hlen⟩:=hrel;have HK:=ah hk;have jl:=ah hbel
 have HB:=ah ny;have HP:=ah hpr;clear hk hbel ny hpr hB0;have hB:=jl.size;cases gk with
 |zero=>
  obtain rfl:k=n:=by have:=HK.out;omega
  go_wp2_with ((go_at_call 66;refine(EX w.heap.size w.heap.size acc wr HB.out hB).mono ?_;rintro e w' ⟨rfl,hb2,hb3,hb4⟩))
  go_ret2
  refine⟨JC ?_,jl.trans hb3⟩;rw[HP.out,aeJ (by have:=HN.out;omega)]
  simp[ay.print,printVal]
 |succ g=>
  have hlt:k<n:=by have:=HK.out;omega
  obtain⟨b1,o1,u1,rfl,hb1,hx1,hc1⟩:=(HA.below jl.out).at_ hlt
  have hkx:k<x.length:=by have:=HN.out;omega
  have HD:Hid (x.drop k=x[k] :: x.drop (k+1)):=aez hkx
  have hr1:=HAR.out k u1 _ hx1 (dF hkx);obtain⟨row,hrow⟩:=aj (x[k]);rw[hrow]at HD hr1
  rw[HD.out,aah]at hlen;obtain⟨A1,c1,ank,_,_,hR⟩:=hr1;subst ank;have hl0:=ai8 row
  obtain⟨m1,hm1⟩:=aj row.length;rw[hm1]at hl0 hR hc1;have HR:=ah hR;have FM:=ah hm1
  clear hR hx1 hrow hm1;have hkn:((k:Int))<n:=by omega
  by_cases he:m1=0
  ·subst he
   have:row=[]:=adB FM.out;subst this;go_wp2
   go_ret2
   refine⟨JC ?_,jl.out⟩;rw[HP.out,HD.out];rfl
  have hne0:((m1:Int) == 0)=false:=by simp;omega
  go_wp2
  go_loopg [20] m1 (fun g i wx=> ∃(j:Nat) (acc':ay.F),j+g=m1/\i=.int .i64 j/\Below w.heap.size w wx/\dP w.heap.size w.heap.size acc' wx/\acc++ay.jv 0 row=acc' ++ ay.jv j (row.drop j)/\acc'.length+ay.wRow (row.drop j)<=acc.length+ay.wRow row)
  case atStart=>exact⟨0,acc,by omega,rfl,jl.out,HB.out,by simp,by simp⟩
  obtain⟨j,acc',hj,rfl,hbel,ny,hfl,hlen'⟩:=hrel;have HJ:=ah hj;have HB':=ah ny
  have HF:=ah hfl;have AV:=ah hbel;have hB':=hbel.size;clear hj ny hfl hbel HB hB jl
  cases gk with
  |zero=>
   obtain rfl:j=m1:=by have:=HJ.out;omega
   have HF2:Hid (acc++ay.printRow row=acc' ++ [13,10]):=by
    refine ah ?_;have h1:=HF.out;rw[aeJ (by have:=FM.out;omega)]at h1
    unfold ay.printRow;rw[<-aeG,h1];simp[ay.jv]
   have hl2:acc'.length+2<=acc.length+ay.wRow row:=by
    have h1:=HF2.out;have h2:=aeH List.length h1;have h3:=ay.aiy row 0
    simp[ay.printRow]at h2;omega
   have hacc:acc'.length<1073741824:=by omega
   go_wp2_with ((go_at_call 65;refine(uf w.heap.size w.heap.size acc' ⟨#[13,10]⟩ _ HB'.out (by decide) hacc hB').mono ?_;rintro e w' ⟨rfl,hb2,hb3,hb4⟩))
   go_roundg g
   case measure=>omega
   refine⟨k+1,acc' ++ [13,10],by have:=HK.out;omega,by go_num,AV.out.trans hb3,hb2, ?_, ?_⟩
   ·have hrn:row≠ []:=fun e=>by rw[e]at FM;exact he FM.symm
    rw[HP.out,HD.out,ay.print,ade hrn,Option.map_map]
    congr 1
    funext t
    simp only[Function.comp];rw[<-aeG,HF2.out]
   simp;omega
  |succ g'=>
   have hlt':j<m1:=by have:=HJ.out;omega
   obtain⟨b2,o2,u2,rfl,hb2,hx2,hc2⟩:=(HR.below AV.out).at_ hlt'
   have hjx:j<row.length:=by have:=FM.out;omega
   have VL:Hid (row.drop j=row[j] :: row.drop (j+1)):=aez hjx;rw[adX,dF hjx]at hx2
   obtain rfl:=ad4 hx2;obtain⟨f,hf⟩:=aj (row[j]);rw[hf]at VL hc2
   rw[VL.out,aai]at hlen';unfold S at hc2;have hjn:((j:Int))<m1:=by omega
   clear hx2 hf
   have hcell: ∀w2,Below w.heap.size wr w2->w2.cell? ⟨0,0,none⟩=some (.int .i64 m):=fun w2 h=>(AV.out.trans h|>.cell hw0).trans HC.out
   have hfs:f.length<268435456:=by omega
   have hca: ∀wx:World,Calls Tryz.prog 70 #[.string ⟨f.toArray⟩,.string ⟨#[34,44,13,10]⟩] wx fun e w'=>e=.returned (.bool (f.any ay.special))/\Below wx.heap.size wx w':=fun wx=>
    (ai4 ⟨f.toArray⟩ ⟨#[34,44,13,10]⟩ wx (by simp[ByteArray.size];omega) (by decide) (by decide) (fun j b h=>(show∀b∈([34,44,13,10]:List UInt8),b.toNat<128 by decide) b (adI h))).mono fun e w' ⟨h1,h2⟩=>⟨by rw[h1,<-aja f],h2⟩
   have hra: ∀wx:World,wx.cell? ⟨0,0,none⟩=some (.int .i64 m)->Calls Tryz.prog 71 #[.string ⟨f.toArray⟩,.string ⟨#[34]⟩,.string ⟨#[34,34]⟩] wx fun e w'=>e=.returned (.string ⟨(ay.esc f).toArray⟩)/\Below wx.heap.size wx w':=fun wx h=>
    (Tryz.strings_ReplaceAll ⟨f.toArray⟩ ⟨#[34]⟩ ⟨#[34,34]⟩ m wx (by simp[ByteArray.size];omega) h (by decide) (by
     have:=Lib.countB_le (⟨#[34]⟩:ByteArray) (by decide) (⟨f.toArray⟩:ByteArray).size ⟨f.toArray⟩ (ac4 _)
     have h2:(⟨f.toArray⟩:ByteArray).size=f.length:=by simp[ByteArray.size]
     have h3:(⟨#[34,34]⟩:ByteArray).size=2:=rfl;rw[h2]at this⊢;rw[h3]
     omega)).mono fun e w' ⟨h1,h2⟩=>⟨by rw[h1,ai6],h2⟩
   obtain⟨E,hE⟩:=aj (⟨(ay.esc f).toArray⟩:ByteArray)
   have hEs:E.size<1000000000:=by rw[<-hE];have:=ay.ZT f;simp[ByteArray.size];omega
   rw[hE]at hra;have HE:=ah hE;clear hE;have xq:=ah hca;have dS:=ah hra
   have HCE:=ah hcell;have hpl:=ay.ZU f;clear hca hra hcell
   have hkk: ∀(QB:ay.F),QB=acc' ++(if 0<j then[44] else[])++ay.qH f->acc++ay.jv 0 row=QB++ay.jv (j+1) (row.drop (j+1))/\QB.length+ay.wRow (row.drop (j+1))<=acc.length+ay.wRow row:=fun QB e=>by
    refine⟨by rw[HF.out,VL.out,ai7,e];simp[aeG], ?_⟩
    rw[e];have:(if 0<j then[44] else([]:ay.F)).length<=1:=by split<;>simp
    simp only[adf];omega
   have HKK:=ah hkk;clear hkk;obtain⟨sep,hsep⟩:=aj ((if 0<j then[44] else[]):ay.F)
   rw[hsep]at HKK;have hsl:sep.length<=1:=by rw[<-hsep];split<;>simp
   obtain⟨pf,hpf⟩:=aj (ay.qH f:ay.F);rw[hpf]at HKK hpl;have xR:=ah hpf
   obtain⟨sp,AX⟩:=aj (f.any ay.special);rw[AX]at xq
   have hacc:acc'.length+1<1073741824:=by omega
   clear hpf
   rcases afv j with hj0|hj0
   ·have hse:sep=[]:=by rw[<-hsep,ade (by omega)]
    have hjz:decide (0<j)=false:=by simp;omega
    subst hse;clear hsep hj0
    have HB1:Hid (dP w.heap.size w.heap.size (acc' ++ []) wr):=by rw[aey];exact HB'
    have sU:=AV;clear HB' AV hB';cases sp with
    |true=>
     have qj:Hid (((⟨#[34]⟩:ByteArray)++E ++⟨#[34]⟩)=⟨pf.toArray⟩):=by
      refine ah ?_;rw[<-xR.out,ay.qH,adk AX,<-HE.out]
      apply afJ
      simp
     clear AX;go_wp2_with (go_at_call 70;refine(xq.out _).mono ?_;rintro e w2 ⟨rfl,hbc⟩)
     have HB2:=ah (HB1.below hbc)
     have uz:Hid (Below w.heap.size w w2):=sU.trans (hbc.mono sU.size)
     have oZ:Hid (w2.cell? ⟨0,0,none⟩=some (.int .i64 m)):=(uz.cell hw0).trans HC.out
     have hsz2:=uz.size;clear hbc HB1 sU
     go_wp2_with (go_at_call 71;refine(dS.out _ oZ.out).mono ?_;rintro e w3 ⟨rfl,hbc⟩)
     have HB3:=ah (HB2.below hbc)
     have Lj:Hid (Below w.heap.size w w3):=uz.trans (hbc.mono hsz2);clear hbc
     have xU:=ah (HKK.out (acc' ++ []++pf) rfl)
     go_wp2_with (go_at_call 65;refine(uf w.heap.size w.heap.size (acc' ++ []) _ _ HB3.out (by rw[qj.out];simp[ByteArray.size];omega) (by simp;omega) Lj.size).mono ?_;rintro e w4 ⟨rfl,hb2,hb3,hb4⟩)
     rw[qj.out]at hb2
     go_roundg g'
     case measure=>omega
     exact⟨j+1,acc' ++ []++pf,by have:=HJ.out;omega,by go_num,Lj.trans hb3,hb2,xU.out.1,xU.out.2⟩
    |false=>
     have qj:Hid (f=pf):=by
      refine ah ?_;rw[<-xR.out,ay.qH,ade (by rw[AX];simp)]
     clear AX;go_wp2_with (go_at_call 70;refine(xq.out _).mono ?_;rintro e w2 ⟨rfl,hbc⟩)
     have HB2:=ah (HB1.below hbc)
     have uz:Hid (Below w.heap.size w w2):=sU.trans (hbc.mono sU.size);clear hbc HB1 sU
     have xU:=ah (HKK.out (acc' ++ []++pf) rfl)
     go_wp2_with (go_at_call 65;refine(uf w.heap.size w.heap.size (acc' ++ []) _ _ HB2.out (by rw[qj.out];simp[ByteArray.size];omega) (by simp;omega) uz.size).mono ?_;rintro e w4 ⟨rfl,hb2,hb3,hb4⟩)
     rw[qj.out]at hb2
     go_roundg g'
     case measure=>omega
     exact⟨j+1,acc' ++ []++pf,by have:=HJ.out;omega,by go_num,uz.trans hb3,hb2,xU.out.1,xU.out.2⟩
   have hse:sep=[44]:=by rw[<-hsep,adk (by omega)]
   have hjz:decide (0<j)=true:=by simp;omega
   subst hse;clear hsep hj0;cases sp with
   |true=>
    have qj:Hid (((⟨#[34]⟩:ByteArray)++E ++⟨#[34]⟩)=⟨pf.toArray⟩):=by
     refine ah ?_;rw[<-xR.out,ay.qH,adk AX,<-HE.out]
     apply afJ
     simp
    clear AX
    go_wp2_with (go_at_call 69;refine(EW w.heap.size w.heap.size acc' 44 _ HB'.out (by decide) (by decide) (by omega) hB').mono ?_;rintro e w1 ⟨rfl,hb2,hb3,hb4⟩)
    have HB1:Hid (dP w.heap.size w.heap.size (acc' ++ [44]) w1):=hb2
    have sU:Hid (Below w.heap.size w w1):=AV.out.trans hb3;clear hb2 hb3 hb4 AV hB' HB'
    go_wp2_with (go_at_call 70;refine(xq.out _).mono ?_;rintro e w2 ⟨rfl,hbc⟩)
    have HB2:=ah (HB1.below hbc)
    have uz:Hid (Below w.heap.size w w2):=sU.trans (hbc.mono sU.size)
    have oZ:Hid (w2.cell? ⟨0,0,none⟩=some (.int .i64 m)):=(uz.cell hw0).trans HC.out
    have hsz2:=uz.size;clear hbc HB1 sU
    go_wp2_with (go_at_call 71;refine(dS.out _ oZ.out).mono ?_;rintro e w3 ⟨rfl,hbc⟩)
    have HB3:=ah (HB2.below hbc)
    have Lj:Hid (Below w.heap.size w w3):=uz.trans (hbc.mono hsz2);clear hbc
    have xU:=ah (HKK.out (acc' ++ [44]++pf) rfl)
    go_wp2_with (go_at_call 65;refine(uf w.heap.size w.heap.size (acc' ++ [44]) _ _ HB3.out (by rw[qj.out];simp[ByteArray.size];omega) (by simp;omega) Lj.size).mono ?_;rintro e w4 ⟨rfl,hb2,hb3,hb4⟩)
    rw[qj.out]at hb2
    go_roundg g'
    case measure=>omega
    exact⟨j+1,acc' ++ [44]++pf,by have:=HJ.out;omega,by go_num,Lj.trans hb3,hb2,xU.out.1,xU.out.2⟩
   |false=>
    have qj:Hid (f=pf):=by
     refine ah ?_;rw[<-xR.out,ay.qH,ade (by rw[AX];simp)]
    clear AX
    go_wp2_with (go_at_call 69;refine(EW w.heap.size w.heap.size acc' 44 _ HB'.out (by decide) (by decide) (by omega) hB').mono ?_;rintro e w1 ⟨rfl,hb2,hb3,hb4⟩)
    have HB1:Hid (dP w.heap.size w.heap.size (acc' ++ [44]) w1):=hb2
    have sU:Hid (Below w.heap.size w w1):=AV.out.trans hb3;clear hb2 hb3 hb4 AV hB' HB'
    go_wp2_with (go_at_call 70;refine(xq.out _).mono ?_;rintro e w2 ⟨rfl,hbc⟩)
    have HB2:=ah (HB1.below hbc)
    have uz:Hid (Below w.heap.size w w2):=sU.trans (hbc.mono sU.size);clear hbc HB1 sU
    have xU:=ah (HKK.out (acc' ++ [44]++pf) rfl)
    go_wp2_with (go_at_call 65;refine(uf w.heap.size w.heap.size (acc' ++ [44]) _ _ HB2.out (by rw[qj.out];simp[ByteArray.size];omega) (by simp;omega) uz.size).mono ?_;rintro e w4 ⟨rfl,hb2,hb3,hb4⟩)
    rw[qj.out]at hb2
    go_roundg g'
    case measure=>omega
    exact⟨j+1,acc' ++ [44]++pf,by have:=HJ.out;omega,by go_num,uz.trans hb3,hb2,xU.out.1,xU.out.2⟩
end Go.Proofs.YtkdakckjafomhaaGreatDoor
namespace Go.Proofs.YtkdakckjafomhaaGreatDoor.Gr
open Go
abbrev L:=List UInt8
structure P where
 key:L
 val:ak.V
structure N where
 id:Int
 labels:List L
 props:List P
structure R where
 id:Int
 type:L
 src:Int
 dst:Int
 props:List P
structure G where
 nodes:List N
 aA:List R
def G0:G:=⟨[],[]⟩
def bC (s:L):Bool:=decide (s≠ []) && decide (s.length<=40) && !(s.head?.any Num.bn) && s.all Lex.oG
section
variable {κ α:Type} (f:Option κ->α->Nat) (key:α->κ)
def first:Option κ->List α->Nat->Nat×Nat
 |_,[],_=>(0,0)
 |p,a :: r,i=>if f p a≠0 then(f p a,i) else first (some (key a)) r (i+1)
def aH (l:List α):Nat->Option κ
 |0=>none
 |k+1=>l[k]?.map key
theorem TS: ∀(l:List α) (p:Option κ) (i k:Nat),k<=l.length->(∀j a,j<k->l[j]?=some a->f (if j=0 then p else aH key l j) a=0)->
  first f key p l i=first f key (if k=0 then p else aH key l k) (l.drop k) (i+k)
 |l,p,i,0,_,_=>by simp
 |[],p,i,k+1,h,_=>by simp at h
 |a :: r,p,i,k+1,h,h0=>by
  have ha:f p a=0:=h0 0 a (by omega) rfl
  have:=TS r (some (key a)) (i+1) k (by simpa using h) (fun j b hj hb=>by
   have:=h0 (j+1) b (by omega) (by simpa using hb)
   rw[ade (by omega)]at this
   cases j with
   |zero=>simpa[aH] using this
   |succ j=>rw[ade (by omega)];simpa[aH] using this)
  rw[first,ade (by rw[ha];decide),this,ade (show¬k+1=0 by omega),af9]
  congr 1
  ·cases k with
   |zero=>simp[aH]
   |succ k=>rw[ade (by omega)];simp[aH]
  omega
theorem C9 {l:List α} {i:Nat} (h0: ∀j a,l[j]?=some a->f (aH key l j) a=0):first f key none l i=(0,0):=by
 have:=TS f key l none i l.length (ac4 _) (fun j a _ ha=>by
  have:=h0 j a ha;cases j with
  |zero=>simpa[aH] using this
  |succ j=>rw[ade (by omega)];exact this)
 rw[this,arj,first]
theorem TT {l:List α} {i k:Nat} {a:α} {e:Nat} (ha:l[k]?=some a) (he:f (aH key l k) a=e) (hne:e≠0) (h0: ∀j a,j<k->l[j]?=some a->f (aH key l j) a=0):first f key none l i=(e,i+k):=by
 obtain⟨hk,hka⟩:=adw.1 ha
 have:=TS f key l none i k (by omega) (fun j a hj ha=>by
  have:=h0 j a hj ha;cases j with
  |zero=>simpa[aH] using this
  |succ j=>rw[ade (by omega)];exact this)
 rw[this,aez hk,hka,first]
 have hp:(if k=0 then none else aH key l k)=aH key l k:=by
  cases k with
  |zero=>rfl
  |succ k=>rw[ade (by omega)]
 rw[hp,he,adk hne]
theorem aaj: ∀(l:List α) (p:Option κ) (i:Nat),(first f key p l i).1=0-> ∀j a,l[j]?=some a->f (if j=0 then p else aH key l j) a=0
 |[],_,_,_,j,a,h=>by simp at h
 |b :: r,p,i,h,j,a,hj=>by
  rw[first]at h
  split at h
  ·rename_i hne
   exact absurd h hne
  rename_i hne;have hb:f p b=0:=Decidable.not_not.1 hne;cases j with
  |zero=>simp only[adn,aeK]at hj;subst hj;simpa using hb
  |succ j=>
   have:=aaj r (some (key b)) (i+1) h j a (by simpa using hj)
   rw[ade (by omega)]
   cases j with
   |zero=>simpa[aH] using this
   |succ j=>rw[ade (by omega)]at this;simpa[aH] using this
theorem Po {l:List α} {i:Nat} (h:(first f key none l i).1=0): ∀j a,l[j]?=some a->f (aH key l j) a=0:=fun j a ha=>by
 have:=aaj f key l none i h j a ha;cases j with
 |zero=>simpa[aH] using this
 |succ j=>rw[ade (by omega)]at this;exact this
end
def kS (prev:Option L) (p:P):Nat:=if bC p.key=false then 60 else if prev.any (fun q=>decide (p.key<=q))=true then 6 else ak.check p.val
def lQ (ps:List P):Nat:=if 16<ps.length then 64 else(first kS P.key none ps 0).1
def labelWrong (prev:Option L) (l:L):Nat:=if bC l=false then 60 else if prev.any (fun q=>decide (l<=q))=true then 6 else 0
def uY (ls:List L):Nat:=if 8<ls.length then 63 else(first labelWrong id none ls 0).1
def iM (prev:Option Int) (n:N):Nat:=
 if n.id<0\/1024<=n.id then 61 else if prev.any (fun q=>decide (n.id<=q))=true then 6 else if uY n.labels≠0 then uY n.labels else lQ n.props
def jw (ids:List Int) (prev:Option Int) (r:R):Nat:=
 if r.id<0\/2048<=r.id then 62 else if prev.any (fun q=>decide (r.id<=q))=true then 6 else if bC r.type=false then 60 else
 if r.src∉ids\/r.dst∉ids then 65 else lQ r.props
def dedup:List L->List L
 |[]=> []
 |a :: r=>if a∈r then dedup r else a :: dedup r
def ql (g:G):List L:=g.nodes.flatMap N.labels
def names2 (g:G):List L:=g.aA.map R.type
def dX (g:G):List P:=g.nodes.flatMap N.props++g.aA.flatMap R.props
def jP (g:G):List L:=(dX g).map P.key
def mQ (v:ak.V):Nat:=
 if v.kind<4 then(if v.kind=1 then 2 else 9) else if v.kind=4 then 3+v.text.length else
 2+v.nums.length*(if v.kind=5 then 1 else 8)+(v.texts.map fun t=>2+t.length).sum
def bT (ps:List P):Nat:=(ps.map fun p=>mQ p.val).sum
def weight (g:G):Nat:=bT (dX g)
def check (g:G):Nat×Nat:=
 if(first iM N.id none g.nodes 0).1≠0 then first iM N.id none g.nodes 0 else
 if(first (jw (g.nodes.map N.id)) R.id none g.aA g.nodes.length).1≠0 then first (jw (g.nodes.map N.id)) R.id none g.aA g.nodes.length else
 if 200<(dedup (ql g)).length\/200<(dedup (names2 g)).length\/200<(dedup (jP g)).length then(66,0) else
 if 262144<weight g then(67,0) else(0,0)
theorem E9 {x:L}: ∀{l:List L},x∈dedup l↔x∈l
 |[]=>by simp[dedup]
 |a :: r=>by
  rw[dedup]
  split
  ·rename_i h
   rw[E9,aeY];exact⟨.inr,fun h'=>h'.elim (fun e=>e▸h) id⟩
  rw[aeY,aeY,E9]
theorem JU: ∀l:List L,(dedup l).Nodup
 |[]=>by simp[dedup]
 |a :: r=>by
  rw[dedup]
  split
  ·exact JU r
  rename_i h;exact ars.2 ⟨fun h'=>h (E9.1 h'),JU r⟩
theorem ajc {a b:List L} (ha:a.Nodup) (hb:b.Nodup) (h: ∀x,x∈a↔x∈b):a.Perm b:=(aqC ha hb).2 h
theorem ajd {a l:List L} (ha:a.Nodup) (h: ∀x,x∈a↔x∈l):a.length=(dedup l).length:=(ajc ha (JU l) (fun x=>(h x).trans E9.symm)).length_eq
def jd {α κ:Type} (le:κ->κ->Bool) (key:α->κ) (l:List α):List α:=l.mergeSort fun a b=>le (key a) (key b)
def lS (ps:List P):List P:=jd (fun a b:L=>decide (a<=b)) P.key ps
def pU (ls:List L):List L:=jd (fun a b:L=>decide (a<=b)) id ls
def ug (n:N):N:=⟨n.id,pU n.labels,lS n.props⟩
def uh (r:R):R:=⟨r.id,r.type,r.src,r.dst,lS r.props⟩
def canon (g:G):G:=⟨jd (fun a b:Int=>decide (a<=b)) N.id (g.nodes.map ug),jd (fun a b:Int=>decide (a<=b)) R.id (g.aA.map uh)⟩
end Go.Proofs.YtkdakckjafomhaaGreatDoor.Gr
namespace Go.Proofs.YtkdakckjafomhaaGreatDoor.Cy
open Go
abbrev L:=List UInt8
end Go.Proofs.YtkdakckjafomhaaGreatDoor.Cy
