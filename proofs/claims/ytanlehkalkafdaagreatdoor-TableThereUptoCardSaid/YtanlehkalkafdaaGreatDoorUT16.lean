/- Contracts and plain laws,part 16. -/
import Derived.Test.YtanlehkalkafdaaGreatDoorUT12
import Derived.Test.YtanlehkalkafdaaGreatDoorUT15
set_option maxHeartbeats 64000000
set_option maxRecDepth 1000000
set_option linter.all false
namespace Go.Proofs.YtanlehkalkafdaaGreatDoor
open Go.RowKit
attribute [local go_sem] Oper.semAt_some
theorem rows_any (s:ByteArray) (w:World):
  Calls Tryz.prog 65 #[.string s] w fun e w'=>e= .returned (.func (.func 112) #[] #[.pointer (some ⟨w.heap.size,0,none⟩)])/\w.alloc (.cells #[.string s] 9)=w':=by
 go_enter Tryz.func65,Tryz.ntmps65;go_wp2;go_ret;exact ⟨rfl,rfl⟩
def OwnRows (w:World) (B:Nat) (v:Value) (rows:List (List Csv.F)):Prop:=
 ∃us:List Value,us.length=rows.length/\w.ownsRow B 45 1 v us.length us/\(∀(k:Nat) u r,us[k]?=some u->rows[k]?=some r->w.ownsRow B 9 1 u r.length (r.map S))/\
  (∀(i j:Nat) u u',i<j->us[i]?=some u->us[j]?=some u'->u.ownBlock=none\/u.ownBlock≠u'.ownBlock)
theorem OwnRows.nil (w:World) (B:Nat):OwnRows w B (.slice none 0 0) []:=⟨[],rfl,World.ownsRow_nil _ _ _ _,fun k u r h=>by simp at h,fun i j u u' _ h=>by simp at h⟩
theorem OwnRows.same1 {w w':World} {B n₁:Nat} {v:Value} {rows:List (List Csv.F)} (h:OwnRows w B v rows) (hs:Same1 165 n₁ w w'):OwnRows w' B v rows:=by
 obtain ⟨us,h1,h2,h3,h4⟩:=h
 exact ⟨us,h1,hs.own h2 (by decide),fun k u r hu hr=>hs.own (h3 k u r hu hr) (by decide),h4⟩
theorem OwnRows.snoc {w:World} {B:Nat} {v u:Value} {us:List Value} {rows:List (List Csv.F)} {fs:List Csv.F} (h1:us.length=rows.length) (h2:w.ownsRow B 45 1 v (us.length+1) (us ++ [u]))
  (h3: ∀(k:Nat) u r,us[k]?=some u->rows[k]?=some r->w.ownsRow B 9 1 u r.length (r.map S)) (hu:w.ownsRow B 9 1 u fs.length (fs.map S))
  (h4: ∀(i j:Nat) u u',i<j->us[i]?=some u->us[j]?=some u'->u.ownBlock=none\/u.ownBlock≠u'.ownBlock) (h5: ∀(i:Nat) x,us[i]?=some x->x.ownBlock=none\/x.ownBlock≠u.ownBlock):OwnRows w B v (rows ++ [fs]):=by
 refine ⟨us ++ [u],by simp [h1],by simpa using h2,fun k x r hx hr=> ?_,fun i j x x' hij hx hx'=> ?_⟩
 ·by_cases hk:k<us.length
  ·rw [nX hk] at hx
   rw [nX (by omega)] at hr
   exact h3 k x r hx hr
  rw [nT (by omega)] at hx
  rw [nT (by omega)] at hr
  have hk0:k - us.length=0:=by
   have:=(lK.1 hx).1
   simpa using this
  rw [<-h1,hk0] at hr;rw [hk0] at hx;simp at hx hr;subst hx hr;exact hu
 by_cases hj:j<us.length
 ·rw [nX (by omega)] at hx
  rw [nX hj] at hx';exact h4 i j x x' hij hx hx'
 rw [nT (by omega)] at hx'
 have hj0:j - us.length=0:=by
  have:=(lK.1 hx').1
  simpa using this
 rw [hj0] at hx';simp at hx';subst hx';rw [nX (by omega)] at hx
 exact h5 i x hx
theorem info_strings:(Tryz.prog.info? 45).map (fun i=>(i.zero,i.size,i.bytes))=some (some (.slice none 0 0),1,24):=by kernel_rfl
def CsvRes (l:Csv.F) (w:World) (e:Ending) (w':World):Prop:=
 ∃v,e= .returned (.tuple #[v, .int .i64 (Csv.rowsOf l).2])/\Below w.heap.size w w'/\(if (Csv.rowsOf l).2=0 then OwnRows w' w.heap.size v (Csv.rowsOf l).1 else v= .slice none 0 0)
theorem csvParse_any (s:ByteArray) (hs:s.size<=16777216) (w:World):
  Calls Tryz.prog 32 #[.string s] w (CsvRes s.data.toList w):=by
 obtain ⟨i0,hi,hz0,hz1,hz2⟩:=info_parts info_strings
 refine calls_of_wp_marks Tryz.func32 rfl ?_
 simp only [Tryz.ntmps32,tX,lF,nJ,Nat.reduceAdd,Nat.reduceSub,uF,uG,vH,qK,mP,nG]
 go_wp2_with (go_at_call 65;refine (rows_any _ _).mono ?_;rintro e w' ⟨rfl,rfl⟩)
 obtain ⟨W,hW⟩:=aj (((w.alloc (.cells #[.slice none 0 0] 61)).alloc (.cells #[.int .i64 0] 28)).alloc (.cells #[.string s] 9))
 have hsz:W.heap.size=w.heap.size+3:=by rw [<-hW];simp
 have b0:Blk W w.heap.size 61 #[.slice none 0 0]:=by rw [<-hW];exact ((Blk.new _ _ _).alloc _).alloc _
 have b1:Blk W (w.heap.size+1) 28 #[.int .i64 0]:=by rw [<-hW];have:=((Blk.new (w.alloc (.cells #[.slice none 0 0] 61)) 28 #[.int .i64 0]).alloc (.cells #[.string s] 9));simpa using this
 have b2:Blk W (w.heap.size+2) 9 #[.string s]:=by rw [<-hW];have:=(Blk.new ((w.alloc (.cells #[.slice none 0 0] 61)).alloc (.cells #[.int .i64 0] 28)) 9 #[.string s]);simpa using this
 have bb:Below w.heap.size w W:=by rw [<-hW];exact (((Below.refl _ w).alloc (kV _) _).alloc (by simp) _).alloc (by simp;omega) _
 rw [hW];clear hW;refine (wpIn_wide (n:=9)).1 ?_
 refine wp_iter 165 (gf:=112) (lb:= #[.pointer (some ⟨w.heap.size+2,0,none⟩)]) rfl (enters_of Tryz.func112 (by kernel_rfl) rfl) (encs:=Yld.enc) (fun x=>rfl) (Pre:=Yld.Pre) ?hPre
  (fun W1 hb hn=>rows_iter s (by omega) W.heap.size (w.heap.size+2) (by omega) W1 hn ((hb.cell (p:=⟨w.heap.size+2,0,none⟩) (by show w.heap.size+2<_;omega)).trans (b2.cell 0)))
  (fun pre V=>(∃vo,Blk V w.heap.size 61 #[vo]/\OwnRows V w.heap.size vo (pre.map (·.fs)))/\Blk V (w.heap.size+1) 28 #[.int .i64 0]/\Blk V (w.heap.size+2) 9 #[.string s]/\Below w.heap.size w V/\(∀y∈pre,y.e=0))
  (fun c V=>c= .ret/\(Csv.rowsOf s.data.toList).2≠0/\Blk V w.heap.size 61 #[.slice none 0 0]/\Blk V (w.heap.size+1) 28 #[.int .i64 (Csv.rowsOf s.data.toList).2]/\Below w.heap.size w V)
  ?hI ?hIx ?hAux ⟨⟨_,b0,OwnRows.nil _ _⟩,b1,b2,bb,by simp⟩
  (fun x=>{tmps:= #[.string s,undef, .pointer (some ⟨w.heap.size,0,none⟩), .pointer (some ⟨w.heap.size+1,0,none⟩),x.v, .int .i64 x.e, .string s, .func (.func 112) #[] #[.pointer (some ⟨w.heap.size+1+1,0,none⟩)],x.v, .int .i64 x.e,undef,undef,undef,undef,undef,undef,undef,undef],defers:= []}) ?assign ?body ?done ?stop
 case hPre=>
  intro x W0 W l r r' h hl;unfold Yld.Pre at h⊢
  split
  ·rename_i h0
   rw [lu h0] at h;exact (Same1.putObj (T:=0) (n₁:=0) r' hl (by omega)).own h (by decide)
  rename_i h0;rw [kU h0] at h;exact h
 case hI=>
  rintro pre A B ⟨⟨vo,h1,h2⟩,h3,h4,h5,h6⟩ hs
  exact ⟨⟨vo,hs.blk h1 (by decide),h2.same1 hs⟩,hs.blk h3 (by decide),hs.blk h4 (by decide),h5.trans (hs.below (by omega) h5.size),h6⟩
 case hIx=>
  rintro c A B ⟨hc,h0,h1,h3,h5⟩ hs
  exact ⟨hc,h0,hs.blk h1 (by decide),hs.blk h3 (by decide),h5.trans (hs.below (by omega) h5.size)⟩
 case hAux=>
  rintro pre V ⟨_,_,h4,_⟩;exact h4.cell 0
 case assign=>
  intro l x V K hK;simp only [Yld.enc]
  gi_wp2
  exact hK
 case body=>
  rintro l pre x W0 V ⟨⟨vo,h1,h2⟩,h3,h4,h5,h6⟩ hs hpre hstep hl hn0
  have g1:=hs.blk h1 (show 61≠165 by decide)
  have g3:=hs.blk h3 (show 28≠165 by decide)
  have g4:=hs.blk h4 (show 9≠165 by decide)
  have g2:=h2.same1 hs;have g5:=h5.trans (hs.below (by omega) h5.size)
  have c1:=g1.cell 0;have f1:=g1.frozen 0;have c3:=g3.cell 0;have f3:=g3.frozen 0
  simp at c1 c3;obtain ⟨v,fs,e⟩:=x;by_cases he:e=0
  ·subst he
   unfold Yld.Pre at hpre;rw [lu rfl] at hpre
   dsimp only at hpre
   clear g2;obtain ⟨us,hu1,hu2w,hu3w,hu4⟩:=h2
   have hu2:=hs.own hu2w (show 45≠165 by decide)
   have hu3: ∀(k:Nat) u r,us[k]?=some u->(pre.map (·.fs))[k]?=some r->V.ownsRow w.heap.size 9 1 u r.length (r.map S):=fun k u r hu hr=>hs.own (hu3w k u r hu hr) (by decide)
   have hux: ∀(i:Nat) x,us[i]?=some x-> ∀g,x.ownBlock=some g->g<W0.heap.size:=fun i x hx g hg=>by
    have hi:i<us.length:=(lK.1 hx).1
    have hr:(pre.map (·.fs))[i]?=some ((pre.map (·.fs))[i]'(by omega)):=ak (by omega)
    exact ((hu3w i x _ hx hr).lt g hg).2
   have HUX:=ah hux;clear hux hu2w hu3w;obtain ⟨Av,cv,rfl⟩:=own_form hpre
   obtain ⟨Ao,co,rfl⟩:=own_form hu2;have HS:=ah hstep;have HG1:=ah g1;have HG3:=ah g3
   have HG4:=ah g4;have HG5:=ah g5;have HW:=ah hsz;have HU2:=ah hu2;have HU3:=ah hu3
   have HU4:=ah hu4;have HU1:=ah hu1;have HP:=ah hpre;have H6:=ah h6
   have HSZ0:w.heap.size<=W0.heap.size:=h5.size
   have hub:us.length<=16777216:=by
    have h8:=hstep.2.1;have h9:=Csv.rowsOf_length s.data.toList;have h10:=Lib.size_eq s
    rw [hu1,lU];omega
   clear hstep g1 g3 g4 h1 h3 h4 h5 h6 g5 hsz hu2 hu3 hu4 hpre hu1
   gi_wp2_with (gi_at_builtin;refine wpListIn_append_own _ rfl _ _ 61 rfl w.heap.size 45 i0 (.slice none 0 0) 1 24 Tryz.underlying61 hi hz0 hz1 hz2 rfl (by decide) _ _ _ rfl (World.ownsRow.alloc HU2.out _) ⟨V.heap.size,0,none⟩ 1 1 [.slice Av fs.length cv] rfl rfl ?c1 ?c2 ?c3 ?c4 ?c5 ?_)
   case c1=>exact cell_one_new _ _ _
   case c2=>simp [Value.oneCell']
   case c3=>unfold maxLen;omega
   case c4=>omega
   case c5=>have:=HG5.size;simp;omega
   intro v' V2 hown' hgrow _;obtain ⟨g',cap',rfl⟩:=ownsRow_succ hown'
   have hnb: ∀i,(Value.slice Ao us.length co).ownBlock=some i->w.heap.size<=i/\ ∃c fz,V.heap[i]?=some (.cells c 45 fz):=fun i e=>by
    refine ⟨(World.ownsRow.lt HU2.out i e).1, ?_⟩
    rcases HU2.out.2 with ⟨h,_⟩ |⟨g,cap,cur,h,_,hh,_⟩
    ·rw [h] at e;simp [Value.ownBlock] at e
    rw [h] at e;simp [Value.ownBlock] at e;subst e;exact ⟨_,_,hh⟩
   have hne: ∀(i b:Nat) (t:TypeId) (c:Array Value),(Value.slice Ao us.length co).ownBlock=some i->Blk V b t c->t≠45->i≠b:=fun i b t c e hb ht hib=>by
    subst hib;obtain ⟨_,c',fz,hc⟩:=hnb i e;unfold Blk at hb;rw [hc] at hb;cases hb
    exact ht rfl
   have k1:Blk V2 w.heap.size 61 #[.slice Ao us.length co]:=Blk.grown (Blk.alloc HG1.out _) hgrow (fun e=>hne _ _ _ _ e.symm HG1.out (by decide) rfl)
   have k3:Blk V2 (w.heap.size+1) 28 #[.int .i64 0]:=Blk.grown (Blk.alloc HG3.out _) hgrow (fun e=>hne _ _ _ _ e.symm HG3.out (by decide) rfl)
   have k4:Blk V2 (w.heap.size+2) 9 #[.string s]:=Blk.grown (Blk.alloc HG4.out _) hgrow (fun e=>hne _ _ _ _ e.symm HG4.out (by decide) rfl)
   have k5:Below w.heap.size w V2:=(HG5.alloc HG5.size _).grown hgrow (by have:=HG5.size;simp;omega) (fun k e=>(hnb k e).1)
   have c2:=k1.cell 0;have f2:=k1.frozen 0;simp at c2;have HK1:=ah k1;have HK3:=ah k3
   have HK4:=ah k4;have HK5:=ah k5;have HNE:=ah hne;have HNB:=ah hnb;have HOW:=ah hown'
   have HGR:=ah hgrow;clear k1 k3 k4 k5 hne hnb hown' hgrow c1 f1 c3 f3
   gi_wp2
   have hset:=grownBy_set V2 ⟨w.heap.size,0,none⟩ (.slice (some ⟨g',0,none⟩) (us.length+1) cap')
   have hboxty: ∀g c t fz,some (⟨w.heap.size,0,none⟩:Addr).block=some g->V2.heap[g]?=some (.cells c t fz)->t=61:=fun g c t fz e hc=>by
    cases e;have:=HK1.out;unfold Blk at this
    rw [show V2.heap[w.heap.size]?=some (.cells c t fz) from hc] at this
    cases this;rfl
   have hrowty: ∀g c t fz,(Value.slice Ao us.length co).ownBlock=some g->(V.alloc (.cells #[.slice Av fs.length cv] 45)).heap[g]?=some (.cells c t fz)->t=45:=fun g c t fz e hc=>by
    obtain ⟨_,c',fz',hc'⟩:=HNB.out g e;rw [Below.heap_alloc _ _ _ (lV.1 hc').1,hc'] at hc
    cases hc;rfl
   have inner: ∀{u:Value} {r:List Csv.F} {B:Nat},V.ownsRow B 9 1 u r.length (r.map S)->(V2.setCell ⟨w.heap.size,0,none⟩ (.slice (some ⟨g',0,none⟩) (us.length+1) cap')).ownsRow B 9 1 u r.length (r.map S):=fun h=>
    own_kept_ty (own_kept_ty (World.ownsRow.alloc h _) HGR.out (fun g c t fz e hc=>by rw [hrowty g c t fz e hc];decide)) hset (fun g c t fz e hc=>by rw [hboxty g c t fz e hc];decide)
   refine ⟨((KeepsOthers.alloc _ _).from _).trans (((KeepsOthers.of_grownBy HGR.out (fun j o e ho=> ?_)).from _).trans ((KeepsOthers.setCell _ _ _).from _)), ?_,⟨_,Blk.set_ HK1.out 0 _, ?_⟩,Blk.far HK3.out (by simp) _,Blk.far HK4.out (by simp) _,HK5.setCell (p:=⟨w.heap.size,0,none⟩) (kV _) _, ?_⟩
   ·obtain ⟨_,c',fz',hc'⟩:=HNB.out j e
    rw [Below.heap_alloc _ _ _ (lV.1 hc').1,hc'] at ho;cases ho;rfl
   ·refine (KeepT.of_grown (World.grownBy_alloc _ _ none) (fun g c fz e=>by cases e)).trans ((KeepT.of_grown HGR.out (fun g c fz e hc=> ?_)).trans (KeepT.of_grown hset (fun g c fz e hc=> ?_)))
    ·exact absurd (hrowty g c _ fz e hc) (by decide)
    exact absurd (hboxty g c _ fz e hc) (by decide)
   ·rw [mV]
    refine OwnRows.snoc HU1.out (own_kept_ty HOW.out hset (fun g c t fz e hc=>by rw [hboxty g c t fz e hc];decide)) (fun k u r hu hr=>inner (HU3.out k u r hu hr)) (own_base (inner HP.out) HSZ0) HU4.out (fun i x hx=> ?_)
    cases hxb:x.ownBlock with
    | none=>exact .inl rfl
    | some g=>
     refine .inr (fun e=> ?_)
     have h8:=HUX.out i x hx g hxb;have h9:=(own_blocks HP.out g e.symm).1;omega
   intro y hy
   rcases lW.1 hy with h | h
   ·exact H6.out y h
   rw [lY.1 h]
  have heb:((e:Int) !=0)=true:=by rw [mF];omega
  unfold Yld.Pre at hpre;rw [kU he] at hpre;obtain ⟨rfl,rfl⟩:=hpre;have HS:=ah hstep
  have HG1:=ah g1;have HG3:=ah g3;have HG5:=ah g5;have HW:=ah hsz
  clear hstep g1 g2 g3 g4 h1 h2 h3 h4 h5 h6 g5 hsz
  gi_wp2
  have h9:(Csv.rowsOf s.data.toList).2=e:=by
   have:=HS.out.2.2.2;rw [kU he] at this;exact this.2
  refine ⟨((KeepsOthers.setCell _ _ _).from _).trans ((KeepsOthers.setCell _ _ _).from _),rfl,by rw [h9];exact he, ?_, ?_, ?_⟩
  ·exact Blk.far (Blk.set_ HG1.out 0 _) (by simp) _
  ·rw [h9]
   exact Blk.set_ (Blk.far HG3.out (by simp) _) 0 _
  exact ((HG5.out).setCell (p:=⟨w.heap.size,0,none⟩) (kV _) _).setCell (p:=⟨w.heap.size+1,0,none⟩) (by simp) _
 case done=>
  rintro D xs V hD hend ⟨⟨vo,h1,h2⟩,h3,h4,h5,h6⟩ hK
  have hdone:(Csv.rowsOf s.data.toList).2=0/\xs.map (·.fs)=(Csv.rowsOf s.data.toList).1:=by
   rcases hend with ⟨q1,_,q3⟩ |⟨q,x,rfl,hx,_⟩
   ·exact ⟨q1,q3⟩
   exact absurd (h6 x (by simp)) hx
  have h2':=h2;obtain ⟨us,hu1,hu2,hu3,hu4⟩:=h2;obtain ⟨Ao,co,rfl⟩:=own_form hu2
  have c1:=h1.cell 0;have f1:=h1.frozen 0;have c3:=h3.cell 0;have f3:=h3.frozen 0
  simp at c1 c3;have HD:=ah hdone;have H1:=ah h1;have H2:=ah h2';have H3:=ah h3
  have H5:=ah h5;have HKD:=ah hK;have HSZ:=ah hsz
  clear hdone h1 h3 h4 h5 h6 hend hK hu1 hu2 hu3 hu4 h2' hsz;go_wp2
  have n0:D≠w.heap.size:=by have:=HSZ.out;omega
  have n1:D≠w.heap.size+1:=by have:=HSZ.out;omega
  have hK2:((V.setCell ⟨w.heap.size,0,none⟩ (.slice Ao us.length co)).setCell ⟨w.heap.size+1,0,none⟩ (.int .i64 0)).heap[D]?=some (.deferred (some [])):=by
   rw [Below.heap_setCell _ _ _ _ n1,Below.heap_setCell _ _ _ _ n0];exact HKD.out
  have B1:=blk_putObj (o:= .deferred none) hK2 (Blk.far (Blk.set_ H1.out 0 (.slice Ao us.length co)) (p:=⟨w.heap.size+1,0,none⟩) (by simp) (.int .i64 0))
  have B3:=blk_putObj (o:= .deferred none) hK2 (Blk.set_ (Blk.far H3.out (p:=⟨w.heap.size,0,none⟩) (by simp) (.slice Ao us.length co)) 0 (.int .i64 0))
  have q1:=B1.cell 0;have q3:=B3.cell 0;simp at q1 q3
  refine ret_mark hK2 (v:= .tuple #[.slice Ao us.length co, .int .i64 0]) (by simp [results,Tryz.results32,go_sem,q1,q3]) ?_
  have keep: ∀{e n:Nat} {v:Value} {xs:List Value},e≠61->e≠28->V.ownsRow w.heap.size e 1 v n xs->(((V.setCell ⟨w.heap.size,0,none⟩ (.slice Ao us.length co)).setCell ⟨w.heap.size+1,0,none⟩ (.int .i64 0)).putObj D (.deferred none)).ownsRow w.heap.size e 1 v n xs:=fun he1 he2 h=>
   own_putObj hK2 (own_kept_ty (own_kept_ty h (grownBy_set _ _ _) (fun g c t fz e hc=>by
    cases e;have:=H1.out;unfold Blk at this
    rw [show V.heap[w.heap.size]?=some (.cells c t fz) from hc] at this
    cases this
    exact Ne.symm he1)) (grownBy_set _ _ _) (fun g c t fz e hc=>by
    cases e
    have:=Blk.far H3.out (p:=⟨w.heap.size,0,none⟩) (by simp) (.slice Ao us.length co)
    unfold Blk at this
    rw [show (V.setCell ⟨w.heap.size,0,none⟩ (.slice Ao us.length co)).heap[w.heap.size+1]?=some (.cells c t fz) from hc] at this
    cases this
    exact Ne.symm he2))
  obtain ⟨us',p1,p2,p3,p4⟩:=H2.out
  refine ⟨_,by rw [HD.out.1];rfl,below_putObj ((H5.setCell (p:=⟨w.heap.size,0,none⟩) (kV _) _).setCell (p:=⟨w.heap.size+1,0,none⟩) (by simp) _) (by have:=HSZ.out;omega), ?_⟩
  rw [lu HD.out.1,<-HD.out.2]
  exact ⟨us',p1,keep (by decide) (by decide) p2,fun k u r hu hr=>keep (by decide) (by decide) (p3 k u r hu hr),p4⟩
 rintro D c V hD ⟨rfl,h0,h1,h3,h5⟩ hK;refine wpIn_wide.2 ?_;have H1:=ah h1;have H3:=ah h3
 have H5:=ah h5;have HKD:=ah hK;have H0:=ah h0;have HSZ:=ah hsz;clear h0 h1 h3 h5 hK hsz
 go_wp2;have B1:=blk_putObj (o:= .deferred none) HKD.out H1.out
 have B3:=blk_putObj (o:= .deferred none) HKD.out H3.out;have q1:=B1.cell 0
 have q3:=B3.cell 0;simp at q1 q3
 refine ret_mark HKD.out (v:= .tuple #[.slice none 0 0, .int .i64 (Csv.rowsOf s.data.toList).2]) (by simp [results,Tryz.results32,go_sem,q1,q3]) ?_
 exact ⟨_,rfl,below_putObj H5.out (by have:=HSZ.out;omega),by rw [kU H0.out]⟩
end Go.Proofs.YtanlehkalkafdaaGreatDoor
namespace Go.Proofs.YtanlehkalkafdaaGreatDoor
open Go.RowKit
def Row1 (w:World) (B:Nat) (v:Value) (ss:List Csv.F):Prop:=
 ∃A c,v= .slice A ss.length c/\ss.length<=c/\c<=maxLen/\Reads w B 1 A ss.length (ss.map S)
def Rows2 (w:World) (B:Nat) (v:Value) (rows:List (List Csv.F)):Prop:=
 ∃A c us,v= .slice A rows.length c/\rows.length<=c/\c<=maxLen/\us.length=rows.length/\Reads w B 1 A rows.length us/\ ∀(k:Nat) u r,us[k]?=some u->rows[k]?=some r->Row1 w B u r
section
variable {w w':World} {B B':Nat} {v:Value} {ss:List Csv.F} {rows:List (List Csv.F)}
theorem Row1.below (h:Row1 w B v ss) (hb:Below B w w'):Row1 w' B v ss:=by
 obtain ⟨A,c,h1,h2,h3,h4⟩:=h;exact ⟨A,c,h1,h2,h3,h4.below hb⟩
theorem Row1.more (h:Row1 w B v ss) (hB:B<=B'):Row1 w B' v ss:=by
 obtain ⟨A,c,h1,h2,h3,h4⟩:=h;exact ⟨A,c,h1,h2,h3,h4.more hB⟩
theorem Rows2.below (h:Rows2 w B v rows) (hb:Below B w w'):Rows2 w' B v rows:=by
 obtain ⟨A,c,us,h1,h2,h3,h4,h5,h6⟩:=h
 exact ⟨A,c,us,h1,h2,h3,h4,h5.below hb,fun k u r hu hr=>(h6 k u r hu hr).below hb⟩
theorem Rows2.more (h:Rows2 w B v rows) (hB:B<=B'):Rows2 w B' v rows:=by
 obtain ⟨A,c,us,h1,h2,h3,h4,h5,h6⟩:=h
 exact ⟨A,c,us,h1,h2,h3,h4,h5.more hB,fun k u r hu hr=>(h6 k u r hu hr).more hB⟩
theorem Row1.of_own {base:Nat} (h:w.ownsRow base 9 1 v ss.length (ss.map S)):Row1 w w.heap.size v ss:=by
 rcases h.2 with ⟨rfl,hn⟩ |⟨g,cap,cur,rfl,hb,hg,h1,h2,h3⟩
 ·refine ⟨none,0,by rw [hn],by omega,by unfold maxLen;omega, ?_⟩
  have:ss= []:=lI hn;subst this;exact Reads.none_
 exact ⟨_,cap,rfl,h1,h2,Reads.of_own (c:=cap) h⟩
theorem Rows2.of_own {base:Nat} (h:OwnRows w base v rows):Rows2 w w.heap.size v rows:=by
 obtain ⟨us,h1,h2,h3,h4⟩:=h
 rcases h2.2 with ⟨rfl,hn⟩ |⟨g,cap,cur,rfl,hb,hg,q1,q2,q3⟩
 ·have hr:rows= []:=lI (by omega)
  subst hr;have hu:us= []:=lI hn;subst hu
  exact ⟨none,0, [],rfl,by simp,by unfold maxLen;omega,rfl,Reads.none_,fun k u r hu=>by simp at hu⟩
 refine ⟨_,cap,us,by rw [<-h1],by omega,q2,h1, ?_,fun k u r hu hr=>Row1.of_own (h3 k u r hu hr)⟩
 rw [<-h1];exact Reads.of_own (c:=cap) h2
end
end Go.Proofs.YtanlehkalkafdaaGreatDoor
namespace Go.Proofs.YtanlehkalkafdaaGreatDoor
open Go.RowKit Go.Lib
theorem containsAny_any (s cs:ByteArray) (w:World) (hs:s.size<4294967281) (h2:2<=cs.size) (hc:cs.size<=1048576) (hascii: ∀(j:Nat) b,cs.data.toList[j]?=some b->b.toNat<128):
  Calls Tryz.prog 59 #[.string s, .string cs] w fun e w'=>e= .returned (.bool (Lib.containsAny s.data.toList cs.data.toList))/\Below w.heap.size w w':=by
 have HA:=ah hascii;clear hascii;go_enter Tryz.func59,Tryz.ntmps59
 go_wp2_with (go_at_call 107;refine (indexAny_any _ _ _ hs h2 hc HA.out).mono ?_;rintro e w' ⟨rfl,hb⟩)
 go_ret;exact ⟨rfl,hb⟩
end Go.Proofs.YtanlehkalkafdaaGreatDoor
namespace Go.Proofs.YtanlehkalkafdaaGreatDoor
open Go.RowKit
def printVal (k:Int):Option Csv.F->Value
 | none=> .tuple #[.string ⟨#[]⟩, .int .i64 k]
 | some t=> .tuple #[.string ⟨t.toArray⟩, .int .i64 0]
theorem esc_repl (f:Csv.F):Csv.esc f=repl1 34 [34,34] f:=rfl
theorem replB (f:Csv.F):(⟨(Lib.replaceAll (⟨f.toArray⟩:ByteArray).data.toList (⟨#[34]⟩:ByteArray).data.toList (⟨#[34,34]⟩:ByteArray).data.toList).toArray⟩:ByteArray)=⟨(Csv.esc f).toArray⟩:=by
 rw [esc_repl,<-replaceAll_one f 34 [34,34] (by decide)]
theorem wRows_cons (r:List Csv.F) (rs:List (List Csv.F)):Csv.wRows (r :: rs)=Csv.wRow r+Csv.wRows rs:=by simp [Csv.wRows]
theorem csvRow_cons (f:Csv.F) (r:List Csv.F):Csv.wRow (f :: r)=2*f.length+3+Csv.wRow r:=by simp [Csv.wRow];omega
theorem fieldsK_cons (k:Nat) (f:Csv.F) (r:List Csv.F):Csv.fieldsK k (f :: r)=(if 0<k then [44] else []) ++ Csv.printF f ++ Csv.fieldsK (k+1) r:=rfl
theorem len_le_wRow (r:List Csv.F):r.length<=Csv.wRow r:=by
 induction r with
 | nil=>simp
 | cons f r ih=>rw [csvRow_cons];simp;omega
theorem len_le_wRows (rs:List (List Csv.F)):rs.length<=Csv.wRows rs:=by
 induction rs with
 | nil=>simp
 | cons r rs ih=>
  rw [wRows_cons];have:2<=Csv.wRow r:=by simp [Csv.wRow]
  simp;omega
theorem any_special (f:Csv.F):Lib.containsAny f [34,44,13,10]=f.any Csv.special:=by
 unfold Lib.containsAny
 induction f with
 | nil=>rfl
 | cons b f ih=>
  have hb:([34,44,13,10]:List UInt8).contains b=Csv.special b:=by
   unfold Csv.special
   cases h1:b == 34<;> cases h2:b == 44<;> cases h3:b == 13<;> cases h4:b == 10<;> simp only [List.contains_cons,List.contains_nil,h1,h2,h3,h4]<;> rfl
  have hge:=Lib.indexAny_ge [34,44,13,10] f;rw [Lib.indexAny,List.any_cons,<-ih,hb]
  cases Csv.special b with
  | true=>simp
  | false=>
   rw [kU (by simp),Bool.false_or]
   split
   ·rename_i h;rw [eq_of_beq h]
   rename_i h;have:Lib.indexAny f [34,44,13,10]≠ -1:=fun e=>h (by rw [e];rfl)
   simp only [decide_eq_decide];omega
theorem csvPrint_any (a:Value) (x:List (List Csv.F)) (w:World) (m:Int) (ha:Rows2 w w.heap.size a x) (hm:w.cell? ⟨0,0,none⟩=some (.int .i64 m)) (hw:Csv.wRows x<=268435456):
  Calls Tryz.prog 25 #[a] w fun e w'=>e= .returned (printVal 2 (Csv.print x))/\Below w.heap.size w w':=by
 have hx0:=len_le_wRows x;obtain ⟨A,c,us,rfl,_,_,hul,hA,hAr⟩:=ha;have HA:=ah hA
 have HAR:=ah hAr;clear hA hAr;obtain ⟨n,hn⟩:=aj x.length;obtain ⟨M,hM⟩:=aj (Csv.wRows x)
 rw [hn] at HA hul hx0⊢;rw [hM] at hw hx0;have HN:=ah hn;have HU:=ah hul;have HM:=ah hM
 have HC:=ah hm
 have hw0:0<w.heap.size:=by
  rcases qj 0 w.heap.size with h | h
  ·exact h
  unfold World.cell? at hm;simp [qN h] at hm
 clear hn hul hM hm;go_enter Tryz.func25,Tryz.ntmps25;go_wp2;have hB0:=Bld.fresh w
 go_loopg [11] n (fun g i wr=> ∃(k:Nat) (acc:Csv.F),k+g=n/\i= .int .i64 k/\Below w.heap.size w wr/\Bld w.heap.size w.heap.size acc wr/\Csv.print x=(Csv.print (x.drop k)).map (acc ++ ·)/\acc.length+Csv.wRows (x.drop k)<=M)
 case atStart=>
  exact ⟨0, [],by omega,rfl,(Below.refl _ _).alloc (kV _) _,hB0,by simp,by have:=HM.out;simp [this]⟩
 obtain ⟨k,acc,hk,rfl,hbel,hbld,hpr,hlen⟩:=hrel;have HK:=ah hk;have HBEL:=ah hbel
 have HB:=ah hbld;have HP:=ah hpr;clear hk hbel hbld hpr hB0;have hB:=HBEL.size
 cases gk with
 | zero=>
  obtain rfl:k=n:=by have:=HK.out;omega
  go_wp2_with ((go_at_call 55;refine (bld_string w.heap.size w.heap.size acc wr HB.out hB).mono ?_;rintro e w' ⟨rfl,hb2,hb3,hb4⟩))
  go_ret2
  refine ⟨ret_eq ?_,HBEL.trans hb3⟩;rw [HP.out,nN (by have:=HN.out;omega)]
  simp [Csv.print,printVal]
 | succ g=>
  have hlt:k<n:=by have:=HK.out;omega
  obtain ⟨b1,o1,u1,rfl,hb1,hx1,hc1⟩:=(HA.below HBEL.out).at_ hlt
  have hkx:k<x.length:=by have:=HN.out;omega
  have HD:Hid (x.drop k=x[k] :: x.drop (k+1)):=mZ hkx
  have hr1:=HAR.out k u1 _ hx1 (ak hkx);obtain ⟨row,hrow⟩:=aj (x[k]);rw [hrow] at HD hr1
  rw [HD.out,wRows_cons] at hlen;obtain ⟨A1,c1,hu1e,_,_,hR⟩:=hr1;subst hu1e
  have hl0:=len_le_wRow row;obtain ⟨m1,hm1⟩:=aj row.length;rw [hm1] at hl0 hR hc1
  have HR:=ah hR;have HM1:=ah hm1;clear hR hx1 hrow hm1;have hkn:((k:Int))<n:=by omega
  by_cases he:m1=0
  ·subst he
   have:row= []:=lI HM1.out;subst this;go_wp2
   go_ret2
   refine ⟨ret_eq ?_,HBEL.out⟩;rw [HP.out,HD.out];rfl
  have hne0:((m1:Int) == 0)=false:=by simp;omega
  go_wp2
  go_loopg [20] m1 (fun g i wx=> ∃(j:Nat) (acc':Csv.F),j+g=m1/\i= .int .i64 j/\Below w.heap.size w wx/\Bld w.heap.size w.heap.size acc' wx/\acc ++ Csv.fieldsK 0 row=acc' ++ Csv.fieldsK j (row.drop j)/\acc'.length+Csv.wRow (row.drop j)<=acc.length+Csv.wRow row)
  case atStart=>exact ⟨0,acc,by omega,rfl,HBEL.out,HB.out,by simp,by simp⟩
  obtain ⟨j,acc',hj,rfl,hbel,hbld,hfl,hlen'⟩:=hrel;have HJ:=ah hj;have HB':=ah hbld
  have HF:=ah hfl;have HBEL':=ah hbel;have hB':=hbel.size
  clear hj hbld hfl hbel HB hB HBEL;cases gk with
  | zero=>
   obtain rfl:j=m1:=by have:=HJ.out;omega
   have HF2:Hid (acc ++ Csv.printRow row=acc' ++ [13,10]):=by
    refine ah ?_;have h1:=HF.out;rw [nN (by have:=HM1.out;omega)] at h1
    unfold Csv.printRow;rw [<-lX,h1];simp [Csv.fieldsK]
   have hl2:acc'.length+2<=acc.length+Csv.wRow row:=by
    have h1:=HF2.out;have h2:=lq List.length h1;have h3:=Csv.fieldsK_length row 0
    simp [Csv.printRow] at h2;omega
   have hacc:acc'.length<1073741824:=by omega
   go_wp2_with ((go_at_call 54;refine (bld_str w.heap.size w.heap.size acc' ⟨#[13,10]⟩ _ HB'.out (by decide) hacc hB').mono ?_;rintro e w' ⟨rfl,hb2,hb3,hb4⟩))
   go_roundg g
   case measure=>omega
   refine ⟨k+1,acc' ++ [13,10],by have:=HK.out;omega,by go_num,HBEL'.out.trans hb3,hb2, ?_, ?_⟩
   ·have hrn:row≠ []:=fun e=>by rw [e] at HM1;exact he HM1.symm
    rw [HP.out,HD.out,Csv.print,kU hrn,Option.map_map]
    congr 1
    funext t
    simp only [Function.comp];rw [<-lX,HF2.out]
   simp;omega
  | succ g'=>
   have hlt':j<m1:=by have:=HJ.out;omega
   obtain ⟨b2,o2,u2,rfl,hb2,hx2,hc2⟩:=(HR.below HBEL'.out).at_ hlt'
   have hjx:j<row.length:=by have:=HM1.out;omega
   have HD':Hid (row.drop j=row[j] :: row.drop (j+1)):=mZ hjx;rw [mW,ak hjx] at hx2
   obtain rfl:=mQ hx2;obtain ⟨f,hf⟩:=aj (row[j]);rw [hf] at HD' hc2
   rw [HD'.out,csvRow_cons] at hlen';unfold S at hc2;have hjn:((j:Int))<m1:=by omega
   clear hx2 hf
   have hcell: ∀w2,Below w.heap.size wr w2->w2.cell? ⟨0,0,none⟩=some (.int .i64 m):=fun w2 h=>(HBEL'.out.trans h |>.cell hw0).trans HC.out
   have hfs:f.length<268435456:=by omega
   have hca: ∀wx:World,Calls Tryz.prog 59 #[.string ⟨f.toArray⟩, .string ⟨#[34,44,13,10]⟩] wx fun e w'=>e= .returned (.bool (f.any Csv.special))/\Below wx.heap.size wx w':=fun wx=>
    (containsAny_any ⟨f.toArray⟩ ⟨#[34,44,13,10]⟩ wx (by simp [ByteArray.size];omega) (by decide) (by decide) (fun j b h=>(show∀b∈([34,44,13,10]:List UInt8),b.toNat<128 by decide) b (lS h))).mono fun e w' ⟨h1,h2⟩=>⟨by rw [h1,<-any_special f],h2⟩
   have hra: ∀wx:World,wx.cell? ⟨0,0,none⟩=some (.int .i64 m)->Calls Tryz.prog 60 #[.string ⟨f.toArray⟩, .string ⟨#[34]⟩, .string ⟨#[34,34]⟩] wx fun e w'=>e= .returned (.string ⟨(Csv.esc f).toArray⟩)/\Below wx.heap.size wx w':=fun wx h=>
    (Tryz.strings_ReplaceAll ⟨f.toArray⟩ ⟨#[34]⟩ ⟨#[34,34]⟩ m wx (by simp [ByteArray.size];omega) h (by decide) (by
     have:=Lib.countB_le (⟨#[34]⟩:ByteArray) (by decide) (⟨f.toArray⟩:ByteArray).size ⟨f.toArray⟩ (kV _)
     have h2:(⟨f.toArray⟩:ByteArray).size=f.length:=by simp [ByteArray.size]
     have h3:(⟨#[34,34]⟩:ByteArray).size=2:=rfl;rw [h2] at this⊢;rw [h3]
     omega)).mono fun e w' ⟨h1,h2⟩=>⟨by rw [h1,replB],h2⟩
   obtain ⟨E,hE⟩:=aj (⟨(Csv.esc f).toArray⟩:ByteArray)
   have hEs:E.size<1000000000:=by rw [<-hE];have:=Csv.esc_length f;simp [ByteArray.size];omega
   rw [hE] at hra;have HE:=ah hE;clear hE;have HCA:=ah hca;have HRA:=ah hra
   have HCE:=ah hcell;have hpl:=Csv.printF_length f;clear hca hra hcell
   have hkk: ∀(acc2:Csv.F),acc2=acc' ++(if 0<j then [44] else []) ++ Csv.printF f->acc ++ Csv.fieldsK 0 row=acc2 ++ Csv.fieldsK (j+1) (row.drop (j+1))/\acc2.length+Csv.wRow (row.drop (j+1))<=acc.length+Csv.wRow row:=fun acc2 e=>by
    refine ⟨by rw [HF.out,HD'.out,fieldsK_cons,e];simp [lX], ?_⟩
    rw [e];have:(if 0<j then [44] else ([]:Csv.F)).length<=1:=by split<;> simp
    simp only [kW];omega
   have HKK:=ah hkk;clear hkk;obtain ⟨sep,hsep⟩:=aj ((if 0<j then [44] else []):Csv.F)
   rw [hsep] at HKK;have hsl:sep.length<=1:=by rw [<-hsep];split<;> simp
   obtain ⟨pf,hpf⟩:=aj (Csv.printF f:Csv.F);rw [hpf] at HKK hpl;have HPF:=ah hpf
   obtain ⟨sp,hspe⟩:=aj (f.any Csv.special);rw [hspe] at HCA
   have hacc:acc'.length+1<1073741824:=by omega
   clear hpf
   rcases nY j with hj0 | hj0
   ·have hse:sep= []:=by rw [<-hsep,kU (by omega)]
    have hjz:decide (0<j)=false:=by simp;omega
    subst hse;clear hsep hj0
    have HB1:Hid (Bld w.heap.size w.heap.size (acc' ++ []) wr):=by rw [mG];exact HB'
    have HBE1:=HBEL';clear HB' HBEL' hB';cases sp with
    | true=>
     have HPE:Hid (((⟨#[34]⟩:ByteArray) ++ E ++⟨#[34]⟩)=⟨pf.toArray⟩):=by
      refine ah ?_;rw [<-HPF.out,Csv.printF,lu hspe,<-HE.out]
      apply pz
      simp
     clear hspe
     go_wp2_with (go_at_call 59;refine (HCA.out _).mono ?_;rintro e w2 ⟨rfl,hbc⟩)
     have HB2:=ah (HB1.below hbc)
     have HBE2:Hid (Below w.heap.size w w2):=HBE1.trans (hbc.mono HBE1.size)
     have HM2:Hid (w2.cell? ⟨0,0,none⟩=some (.int .i64 m)):=(HBE2.cell hw0).trans HC.out
     have hsz2:=HBE2.size;clear hbc HB1 HBE1
     go_wp2_with (go_at_call 60;refine (HRA.out _ HM2.out).mono ?_;rintro e w3 ⟨rfl,hbc⟩)
     have HB3:=ah (HB2.below hbc)
     have HBE3:Hid (Below w.heap.size w w3):=HBE2.trans (hbc.mono hsz2);clear hbc
     have HKK2:=ah (HKK.out (acc' ++ [] ++ pf) rfl)
     go_wp2_with (go_at_call 54;refine (bld_str w.heap.size w.heap.size (acc' ++ []) _ _ HB3.out (by rw [HPE.out];simp [ByteArray.size];omega) (by simp;omega) HBE3.size).mono ?_;rintro e w4 ⟨rfl,hb2,hb3,hb4⟩)
     rw [HPE.out] at hb2
     go_roundg g'
     case measure=>omega
     exact ⟨j+1,acc' ++ [] ++ pf,by have:=HJ.out;omega,by go_num,HBE3.trans hb3,hb2,HKK2.out.1,HKK2.out.2⟩
    | false=>
     have HPE:Hid (f=pf):=by
      refine ah ?_;rw [<-HPF.out,Csv.printF,kU (by rw [hspe];simp)]
     clear hspe
     go_wp2_with (go_at_call 59;refine (HCA.out _).mono ?_;rintro e w2 ⟨rfl,hbc⟩)
     have HB2:=ah (HB1.below hbc)
     have HBE2:Hid (Below w.heap.size w w2):=HBE1.trans (hbc.mono HBE1.size)
     clear hbc HB1 HBE1;have HKK2:=ah (HKK.out (acc' ++ [] ++ pf) rfl)
     go_wp2_with (go_at_call 54;refine (bld_str w.heap.size w.heap.size (acc' ++ []) _ _ HB2.out (by rw [HPE.out];simp [ByteArray.size];omega) (by simp;omega) HBE2.size).mono ?_;rintro e w4 ⟨rfl,hb2,hb3,hb4⟩)
     rw [HPE.out] at hb2
     go_roundg g'
     case measure=>omega
     exact ⟨j+1,acc' ++ [] ++ pf,by have:=HJ.out;omega,by go_num,HBE2.trans hb3,hb2,HKK2.out.1,HKK2.out.2⟩
   have hse:sep= [44]:=by rw [<-hsep,lu (by omega)]
   have hjz:decide (0<j)=true:=by simp;omega
   subst hse;clear hsep hj0;cases sp with
   | true=>
    have HPE:Hid (((⟨#[34]⟩:ByteArray) ++ E ++⟨#[34]⟩)=⟨pf.toArray⟩):=by
     refine ah ?_;rw [<-HPF.out,Csv.printF,lu hspe,<-HE.out]
     apply pz
     simp
    clear hspe
    go_wp2_with (go_at_call 58;refine (bld_byte w.heap.size w.heap.size acc' 44 _ HB'.out (by decide) (by decide) (by omega) hB').mono ?_;rintro e w1 ⟨rfl,hb2,hb3,hb4⟩)
    have HB1:Hid (Bld w.heap.size w.heap.size (acc' ++ [44]) w1):=hb2
    have HBE1:Hid (Below w.heap.size w w1):=HBEL'.out.trans hb3
    clear hb2 hb3 hb4 HBEL' hB' HB'
    go_wp2_with (go_at_call 59;refine (HCA.out _).mono ?_;rintro e w2 ⟨rfl,hbc⟩)
    have HB2:=ah (HB1.below hbc)
    have HBE2:Hid (Below w.heap.size w w2):=HBE1.trans (hbc.mono HBE1.size)
    have HM2:Hid (w2.cell? ⟨0,0,none⟩=some (.int .i64 m)):=(HBE2.cell hw0).trans HC.out
    have hsz2:=HBE2.size;clear hbc HB1 HBE1
    go_wp2_with (go_at_call 60;refine (HRA.out _ HM2.out).mono ?_;rintro e w3 ⟨rfl,hbc⟩)
    have HB3:=ah (HB2.below hbc)
    have HBE3:Hid (Below w.heap.size w w3):=HBE2.trans (hbc.mono hsz2);clear hbc
    have HKK2:=ah (HKK.out (acc' ++ [44] ++ pf) rfl)
    go_wp2_with (go_at_call 54;refine (bld_str w.heap.size w.heap.size (acc' ++ [44]) _ _ HB3.out (by rw [HPE.out];simp [ByteArray.size];omega) (by simp;omega) HBE3.size).mono ?_;rintro e w4 ⟨rfl,hb2,hb3,hb4⟩)
    rw [HPE.out] at hb2
    go_roundg g'
    case measure=>omega
    exact ⟨j+1,acc' ++ [44] ++ pf,by have:=HJ.out;omega,by go_num,HBE3.trans hb3,hb2,HKK2.out.1,HKK2.out.2⟩
   | false=>
    have HPE:Hid (f=pf):=by
     refine ah ?_;rw [<-HPF.out,Csv.printF,kU (by rw [hspe];simp)]
    clear hspe
    go_wp2_with (go_at_call 58;refine (bld_byte w.heap.size w.heap.size acc' 44 _ HB'.out (by decide) (by decide) (by omega) hB').mono ?_;rintro e w1 ⟨rfl,hb2,hb3,hb4⟩)
    have HB1:Hid (Bld w.heap.size w.heap.size (acc' ++ [44]) w1):=hb2
    have HBE1:Hid (Below w.heap.size w w1):=HBEL'.out.trans hb3
    clear hb2 hb3 hb4 HBEL' hB' HB'
    go_wp2_with (go_at_call 59;refine (HCA.out _).mono ?_;rintro e w2 ⟨rfl,hbc⟩)
    have HB2:=ah (HB1.below hbc)
    have HBE2:Hid (Below w.heap.size w w2):=HBE1.trans (hbc.mono HBE1.size)
    clear hbc HB1 HBE1;have HKK2:=ah (HKK.out (acc' ++ [44] ++ pf) rfl)
    go_wp2_with (go_at_call 54;refine (bld_str w.heap.size w.heap.size (acc' ++ [44]) _ _ HB2.out (by rw [HPE.out];simp [ByteArray.size];omega) (by simp;omega) HBE2.size).mono ?_;rintro e w4 ⟨rfl,hb2,hb3,hb4⟩)
    rw [HPE.out] at hb2
    go_roundg g'
    case measure=>omega
    exact ⟨j+1,acc' ++ [44] ++ pf,by have:=HJ.out;omega,by go_num,HBE2.trans hb3,hb2,HKK2.out.1,HKK2.out.2⟩
end Go.Proofs.YtanlehkalkafdaaGreatDoor
namespace Go.Proofs.YtanlehkalkafdaaGreatDoor.Cy
open Go
abbrev L:=List UInt8
def word (k:Int):L:=if k=1 then [98,111,111,108] else if k=2 then [105,110,116] else if k=3 then [102,108,111,97,116] else [116,101,120,116]
def scalar (k n:Int) (t:L):L:=if k=1 then (if n=1 then Cel.TRUE else Cel.FALSE) else if k=2 then Lib.itoa n else if k=3 then Num.fmt (Cel.u64 n) else Lex.quote t
def join (sep:L):List L->L
 | []=> []
 | [a]=>a
 | a :: b :: r=>a ++ sep ++ join sep (b :: r)
def parts (v:Cel.V):List L:=v.nums.map (fun n=>scalar (v.kind - 4) n []) ++ v.texts.map (fun t=>scalar (v.kind - 4) 0 t)
def lit (v:Cel.V):L:=if v.kind<=4 then scalar v.kind v.num v.text else [91,58] ++ word (v.kind - 4) ++(if parts v= [] then [] else 32 :: join [44,32] (parts v)) ++ [93]
def propS (p:Gr.P):L:=p.key ++ [58,32] ++ lit p.val
def mapS (ps:List Gr.P):L:=if ps= [] then [] else [32,123] ++ join [44,32] (ps.map propS) ++ [125]
def CREATE:L:= [67,82,69,65,84,69]
def nodeS (n:Gr.N):L:=CREATE ++ [32,40,110] ++ Lib.itoa n.id ++ n.labels.flatMap (fun l=>58 :: l) ++ mapS n.props ++ [41,59,10]
def relS (r:Gr.R):L:=CREATE ++ [32,40,110] ++ Lib.itoa r.src ++ [41,45,91,114] ++ Lib.itoa r.id ++ [58] ++ r.type ++ mapS r.props ++ [93,45,62,40,110] ++ Lib.itoa r.dst ++ [41,59,10]
def lines (g:Gr.G):List L:=g.nodes.map nodeS ++ g.rels.map relS
def print (g:Gr.G):L:=(lines g).flatten
def printR (g:Gr.G):L×Nat:=if (Gr.check g).1=0 then (print g,0) else ([],(Gr.check g).1)
abbrev T:=List Lex.Tok
structure Pat where
 rel:Bool
 first:L
 word:L
 other:L
 names:List L
 props:List Gr.P
def mark (m:L):T->Option T
 | []=>none
 | t :: r=>if t.kind=5/\t.text=m then some r else none
def wordP:T->Option (L×T)
 | []=>none
 | t :: r=>if t.kind=1 then some (t.text,r) else none
def scalarP:T->Option ((Int×Int×L)×T)
 | []=>none
 | t :: r=>
  if t.kind=1 then (if t.text=Cel.TRUE then some ((1,1, []),r) else if t.text=Cel.FALSE then some ((1,0, []),r) else none) else
  if t.kind=2 then some ((2,t.num, []),r) else
  if t.kind=3 then some ((3,t.num, []),r) else
  if t.kind=4 then some ((4,0,t.text),r) else none
def kindOf (w:L):Int:=if w=word 1 then 1 else if w=word 2 then 2 else if w=word 3 then 3 else if w=word 4 then 4 else 0
def elems (k:Int):Nat->T->List Int->List L->Option ((List Int×List L)×T)
 | 0,_,_,_=>none
 | f+1,l,ns,ts=>
  match scalarP l with
  | none=>none
  | some ((j,n,t),r)=>
   if j≠k then none else
   match mark [93] r with
   | some r'=>some ((if k=4 then ns else ns ++ [n],if k=4 then ts ++ [t] else ts),r')
   | none=>
    match mark [44] r with
    | none=>none
    | some r'=>elems k f r' (if k=4 then ns else ns ++ [n]) (if k=4 then ts ++ [t] else ts)
def litP (l:T):Option (Cel.V×T):=
 match mark [91] l with
 | none=>(scalarP l).map fun x=>(⟨x.1.1,x.1.2.1,x.1.2.2, [], []⟩,x.2)
 | some r=>
  match mark [58] r with
  | none=>none
  | some r=>
   match wordP r with
   | none=>none
   | some (w,r)=>
    if kindOf w=0 then none else
    match mark [93] r with
    | some r=>some (⟨kindOf w+4,0, [], [], []⟩,r)
    | none=>(elems (kindOf w) (r.length+1) r [] []).map fun x=>(⟨kindOf w+4,0, [],x.1.1,x.1.2⟩,x.2)
def propsGo:Nat->T->List Gr.P->Option (List Gr.P×T)
 | 0,_,_=>none
 | f+1,l,acc=>
  match wordP l with
  | none=>none
  | some (k,r)=>
   match mark [58] r with
   | none=>none
   | some r=>
    match litP r with
    | none=>none
    | some (v,r)=>
     match mark [125] r with
     | some r=>some (acc ++ [⟨k,v⟩],r)
     | none=>
      match mark [44] r with
      | none=>none
      | some r=>propsGo f r (acc ++ [⟨k,v⟩])
def propsP (l:T):Option (List Gr.P×T):=
 match mark [123] l with
 | none=>some ([],l)
 | some r=>
  match mark [125] r with
  | some r=>some ([],r)
  | none=>propsGo (r.length+1) r []
def labelsP:Nat->T->List L->Option (List L×T)
 | 0,_,_=>none
 | f+1,l,acc=>
  match mark [58] l with
  | none=>some (acc,l)
  | some r=>
   match wordP r with
   | none=>none
   | some (w,r)=>labelsP f r (acc ++ [w])
def relP (first:L) (l:T):Option (Pat×T):=
 match mark [91] l with
 | none=>none
 | some l=>
  match wordP l with
  | none=>none
  | some (w,l)=>
   match mark [58] l with
   | none=>none
   | some l=>
    match wordP l with
    | none=>none
    | some (ty,l)=>
     match propsP l with
     | none=>none
     | some (ps,l)=>
      match mark [93] l with
      | none=>none
      | some l=>
       match mark [45,62] l with
       | none=>none
       | some l=>
        match mark [40] l with
        | none=>none
        | some l=>
         match wordP l with
         | none=>none
         | some (o,l)=>(mark [41] l).map fun l=>(⟨true,first,w,o, [ty],ps⟩,l)
def patP (l:T):Option (Pat×T):=
 match mark [40] l with
 | none=>none
 | some l=>
  match wordP l with
  | none=>none
  | some (w,l)=>
   match labelsP (l.length+1) l [] with
   | none=>none
   | some (ls,r)=>
    match propsP r with
    | none=>none
    | some (ps,r')=>
     match mark [41] r' with
     | none=>none
     | some r''=>
      if ls≠ []\/(mark [123] r).isSome=true then some (⟨false,w, [], [],ls,ps⟩,r'') else
      match mark [45] r'' with
      | none=>some (⟨false,w, [], [],ls,ps⟩,r'')
      | some r=>relP w r
def pats:Nat->T->List Pat->Option (List Pat×T)
 | 0,_,_=>none
 | f+1,l,acc=>
  match patP l with
  | none=>none
  | some (p,r)=>
   match mark [59] r with
   | some r=>some (acc ++ [p],r)
   | none=>
    match mark [44] r with
    | none=>none
    | some r=>pats f r (acc ++ [p])
def script:Nat->T->List Pat->Option (List Pat)
 | 0,_,_=>none
 | _+1, [],acc=>some acc
 | f+1,t :: r,acc=>
  if t.kind=1/\t.text=CREATE then
   match pats (r.length+1) r acc with
   | none=>none
   | some (acc,r)=>script f r acc
  else none
def patterns (l:T):Option (List Pat):=script (l.length+1) l []
def idP (c:UInt8) (most:Int):L->Option Int
 | []=>none
 | d :: r=>if d=c/\(Num.parseInt r).2=0/\0<=(Num.parseInt r).1/\(Num.parseInt r).1<most then some (Num.parseInt r).1 else none
def dupWrong:List L->List L->Nat
 | _, []=>0
 | seen,l :: r=>if Gr.goodName l=false then 60 else if l∈seen then 7 else dupWrong (seen ++ [l]) r
def propsWrong:List L->List Gr.P->Nat
 | _, []=>0
 | seen,p :: r=>if Gr.goodName p.key=false then 60 else if p.key∈seen then 7 else if Cel.check p.val≠0 then Cel.check p.val else propsWrong (seen ++ [p.key]) r
def endP (g:Gr.G) (w:L):Int×Nat:=
 match idP 110 1024 w with
 | none=>(0,61)
 | some n=>if n∈g.nodes.map Gr.N.id then (n,0) else (0,65)
def addNode (g:Gr.G) (p:Pat):Gr.G×Nat:=
 match idP 110 1024 p.first with
 | none=>(g,61)
 | some n=>
  if n∈g.nodes.map Gr.N.id then (g,7) else
  if dupWrong [] p.names≠0 then (g,dupWrong [] p.names) else
  (⟨g.nodes ++ [⟨n,p.names,p.props⟩],g.rels⟩,propsWrong [] p.props)
def addRel (g:Gr.G) (p:Pat):Gr.G×Nat:=
 if (endP g p.first).2≠0 then (g,(endP g p.first).2) else
 match idP 114 2048 p.word with
 | none=>(g,62)
 | some n=>
  if n∈g.rels.map Gr.R.id then (g,7) else
  if Gr.goodName (p.names.headD [])=false then (g,60) else
  if propsWrong [] p.props≠0 then (g,propsWrong [] p.props) else
  (⟨g.nodes,g.rels ++ [⟨n,p.names.headD [],(endP g p.first).1,(endP g p.other).1,p.props⟩]⟩,(endP g p.other).2)
def add (g:Gr.G) (p:Pat):Gr.G×Nat:=if p.rel then addRel g p else addNode g p
def make:Gr.G->List Pat->Gr.G×Nat
 | g, []=>(g,0)
 | g,p :: r=>if (add g p).2≠0 then (Gr.G0,(add g p).2) else make (add g p).1 r
def parse (s:L):Gr.G×Nat:=
 match (Lex.read s).2 with
 | some (_,e)=>(Gr.G0,e)
 | none=>
  match patterns (Lex.read s).1 with
  | none=>(Gr.G0,250)
  | some ps=>
   if (make Gr.G0 ps).2≠0 then (Gr.G0,(make Gr.G0 ps).2) else
   if (Gr.check (Gr.canon (make Gr.G0 ps).1)).1≠0 then (Gr.G0,(Gr.check (Gr.canon (make Gr.G0 ps).1)).1) else (Gr.canon (make Gr.G0 ps).1,0)
end Go.Proofs.YtanlehkalkafdaaGreatDoor.Cy
