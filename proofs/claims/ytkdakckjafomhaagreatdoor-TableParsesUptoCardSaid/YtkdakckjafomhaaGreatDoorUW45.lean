/- Contracts and plain laws,part 45. -/
import Derived.Test.YtkdakckjafomhaaGreatDoorUW44
set_option maxHeartbeats 64000000
set_option maxRecDepth 1000000
set_option linter.all false
namespace Go.Proofs.YtkdakckjafomhaaGreatDoor
open Go.RowKit
structure wL (us:List Value) (w:World) (B:Nat) (v4 v5 v6:Value) (rows:List (List ay.F)) (row:List ay.F) (field:ay.F):Prop where
 len:us.length=rows.length
 own4:w.ownsRow B 34 1 v4 us.length us
 inner: ∀(k:Nat) u r,us[k]?=some u->rows[k]?=some r->w.ownsRow B 9 1 u r.length (r.map S)
 dist: ∀(i j:Nat) u u',i<j->us[i]?=some u->us[j]?=some u'->u.ownBlock=none\/u.ownBlock≠u'.ownBlock
 uP:w.ownsRow B 9 1 v5 row.length (row.map S)
 far: ∀(i:Nat) u,us[i]?=some u->u.ownBlock=none\/u.ownBlock≠v5.ownBlock
 CS:OwnB B v6 field w
theorem uo {w w':World} {B e e' n n' sz:Nat} {v x:Value} {xs ys:List Value} (h:w.ownsRow B e sz v n xs) (hg:w.grownBy w' x.ownBlock) (hx:w.ownsRow B e' 1 x n' ys) (hne:e'≠e):w'.ownsRow B e sz v n xs:=
 aW h hg (fun g c t fz hr hc=>by
  obtain⟨_,c',hc'⟩:=tY hx g hr;rw[hc']at hc;cases hc
  exact hne)
theorem ac2 {w w':World} {B e n sz:Nat} {v:Value} {xs:List Value} (h:w.ownsRow B e sz v n xs) (hg:w.grownBy w' none):w'.ownsRow B e sz v n xs:=
 aW h hg (fun g c t fz hr=>by cases hr)
theorem wL.Fj {us:List Value} {w:World} {B:Nat} {v4 v5 v6:Value} {rows:List (List ay.F)} {row:List ay.F} {field:ay.F} (h:wL us w B v4 v5 v6 rows row field):OwnRows w B v4 rows:=
 ⟨us,h.len,h.own4,h.inner,h.dist⟩
theorem wL.Kr {us:List Value} {w w':World} {B:Nat} {v4 v5 v6 Oc:Value} {rows:List (List ay.F)} {row:List ay.F} {field f':ay.F} (h:wL us w B v4 v5 v6 rows row field)
  (hg:w.grownBy w' v6.ownBlock) (h6:OwnB B Oc f' w'):wL us w' B v4 v5 Oc rows row f':=
 ⟨h.len,uo h.own4 hg h.CS (by decide),fun k u r hu hr=>uo (h.inner k u r hu hr) hg h.CS (by decide),h.dist,uo h.uP hg h.CS (by decide),h.far,h6⟩
theorem wL.setRow {us:List Value} {w w':World} {B:Nat} {v4 v5 EF v6:Value} {rows:List (List ay.F)} {row row':List ay.F} {field:ay.F} (h:wL us w B v4 v5 v6 rows row field)
  (hg:w.grownBy w' v5.ownBlock) (h5:w'.ownsRow B 9 1 EF row'.length (row'.map S)) (hn:EF.ownBlock=v5.ownBlock\/ ∃g,EF.ownBlock=some g/\w.heap.size<=g):wL us w' B v4 EF v6 rows row' field:=
 ⟨h.len,uo h.own4 hg h.uP (by decide),fun k u r hu hr=>by
  refine(h.inner k u r hu hr).kept hg ?_;exact h.far k u hu,h.dist,h5,fun i u hu=>by
  rcases hn with e|⟨g,e,hge⟩
  ·rw[e];exact h.far i u hu
  cases hb:u.ownBlock with
  |none=>exact .inl rfl
  |some j=>
   refine .inr (fun e2=> ?_)
   rw[e]at e2;have hi:i<us.length:=(adw.1 hu).1
   have hr:=dF (show i<rows.length by rw[<-h.len];exact hi)
   have:=((h.inner i u _ hu hr).lt j hb).2;cases e2
   omega,uo h.CS hg h.uP (by decide)⟩
theorem wL.push {us:List Value} {w w1 w2:World} {B:Nat} {v4 v4' v5 EF v6 Oc:Value} {rows:List (List ay.F)} {row:List ay.F} {field:ay.F} (h:wL us w B v4 v5 v6 rows row field)
  (h4:w1.ownsRow B 34 1 v4' (us.length+1) (us++[v5])) (hg:w.grownBy w1 v4.ownBlock) (hg2:w1.grownBy w2 none) (h5:w2.ownsRow B 9 1 EF 0 []) (hn: ∃g,EF.ownBlock=some g/\w1.heap.size<=g) (h6:OwnB B Oc [] w2):
  wL (us++[v5]) w2 B v4' EF Oc (rows++[row]) [] []:=by
 have hin: ∀(k:Nat) u r,us[k]?=some u->rows[k]?=some r->w1.ownsRow B 9 1 u r.length (r.map S):=fun k u r hu hr=>uo (h.inner k u r hu hr) hg h.own4 (by decide)
 have hv5:w1.ownsRow B 9 1 v5 row.length (row.map S):=uo h.uP hg h.own4 (by decide)
 have hall: ∀(k:Nat) u r,(us++[v5])[k]?=some u->(rows++[row])[k]?=some r->w1.ownsRow B 9 1 u r.length (r.map S):=fun k u r hu hr=>by
  by_cases hk:k<us.length
  ·rw[aeZ hk]at hu
   rw[aeZ (by rw[<-h.len];exact hk)]at hr
   exact hin k u r hu hr
  rw[ae5 (by omega)]at hu
  rw[ae5 (by have:=h.len;omega)]at hr
  have hk0:k - us.length=0:=by
   have:=(adw.1 hu).1
   simpa using this
  rw[<-h.len,hk0]at hr;rw[hk0]at hu;cases hu;cases hr;exact hv5
 refine⟨by simp[h.len], ?_,fun k u r hu hr=>ac2 (hall k u r hu hr) hg2,fun i j u u' hij hu hu'=> ?_,h5,fun i u hu=> ?_,h6⟩
 ·have:=ac2 h4 hg2
  simpa using this
 ·by_cases hj:j<us.length
  ·rw[aeZ hj]at hu'
   rw[aeZ (by omega)]at hu
   exact h.dist i j u u' hij hu hu'
  have hl:=(adw.1 hu').1;simp at hl;rw[aeZ (by omega)]at hu
  rw[ae5 (by omega)]at hu'
  have hk0:j - us.length=0:=by omega
  rw[hk0]at hu';cases hu';exact h.far i u hu
 obtain⟨g,e,hge⟩:=hn;cases hb:u.ownBlock with
 |none=>exact .inl rfl
 |some j=>
  refine .inr (fun e2=> ?_)
  rw[e]at e2;have hi:i<(us++[v5]).length:=(adw.1 hu).1
  have hr:=dF (show i<(rows++[row]).length by simp at hi⊢;have:=h.len;omega)
  have:=((hall i u _ hu hr).lt j hb).2;cases e2;omega
def Vj (r:List (List ay.F)×Nat) (w:World) (e:Ending) (w':World):Prop:=
 ∃v,e=.returned (.tuple #[v,.int .i64 r.2])/\OwnRows w' w.heap.size v r.1/\Below w.heap.size w w'
theorem zF {r:List (List ay.F)×Nat} {w w':World} {v:Value} {rows:List (List ay.F)} {n:Nat} (h:r=(rows,n)) (ho:OwnRows w' w.heap.size v rows) (hb:Below w.heap.size w w') {u:Value} (hu:u=.int .i64 n):
  Vj r w (.returned (.tuple #[v,u])) w':=by
 subst h hu;exact⟨v,rfl,ho,hb⟩
theorem amB (s:ByteArray) (hs:s.size<=16777216) (w:World):
  Calls Tryz.prog 46 #[.string s] w (Vj (ay.rowsOf s.data.toList) w):=by
 obtain⟨R,hR⟩:=aj (ay.rowsOf s.data.toList);rw[hR];have hR0:=hR;rw[ay.TQ]at hR0
 have HR0:=ah hR0;clear hR hR0;go_enter Tryz.func46,Tryz.ntmps46;go_wp2
 go_loopg [4,5,6,7,8] s.size (fun g v4 v5 v6 st i wr=> ∃(k:Nat) (us:List Value) (q:Nat) (rows:List (List ay.F)) (row:List ay.F) (field:ay.F),k+g=s.size/\i=.int .i64 k/\st=.int .i64 q/\q<=4/\
  Below w.heap.size w wr/\wL us wr w.heap.size v4 v5 v6 rows row field/\ay.read ⟨q,rows,row,field⟩ (s.data.toList.drop k)=R/\rows.length<=k/\row.length<=k/\field.length<=k)
 case atStart=>
  refine⟨0,[],0,[],[],[],by omega,rfl,rfl,by omega,(((Below.refl _ _).alloc (ac4 _) _).alloc (by simp) _).alloc (by simp;omega) _, ?_,HR0.out,by simp,by simp,by simp⟩
  refine⟨rfl,World.ownsRow.alloc (World.ownsRow.alloc (y7 w _ _ 0 _ (ac4 _) rfl) _) _,fun k u r h=>by simp at h,fun i j u u' _ h=>by simp at h, ?_,fun i u h=>by simp at h, ?_⟩
  ·have:=World.ownsRow.alloc (y7 (w.alloc (.cells #[] 34)) w.heap.size 9 0 #[] (by simp) rfl) (.cells #[] 5)
   simpa using this
  have:=y7 ((w.alloc (.cells #[] 34)).alloc (.cells #[] 9)) w.heap.size 5 0 #[] (by simp;omega) rfl
  simpa[OwnB,Lib.byteCells] using this
 obtain⟨k,us,q,rows,row,field,hk,rfl,rfl,hq4,hbel,hrs,hrd,hl1,hl2,hl3⟩:=hrel
 have HR:=ah hrs;have jl:=ah hbel;have HK:=ah hk;have iJ:=ah hrd;have hB:=hbel.size
 have Lh:us.length<=k:=by have:=hrs.len;omega
 obtain⟨A4,c4,rfl⟩:=aF hrs.own4;obtain⟨A5,c5,rfl⟩:=aF hrs.uP
 obtain⟨A6,c6,rfl⟩:=aF hrs.CS;have hcv:=hrs.CS.conv;clear hrs hbel hk hrd;cases gk with
 |zero=>
  have HS:Hid (ay.fin ⟨q,rows,row,field⟩=R):=by
   refine ah ?_;have h1:=iJ.out
   rwa [aeJ (by rw[<-Lib.size_eq];have:=HK.out;omega)]at h1
  obtain rfl:k=s.size:=by have:=HK.out;omega
  by_cases h2:q=2
  ·subst h2
   clear hcv;go_wp2
   go_ret2
   exact zF HS.symm HR.Fj jl.out rfl
  have h2b:((q:Int) == 2)=false:=adh.2 (by omega)
  by_cases h4:q=4
  ·subst h4
   clear hcv;go_wp2
   go_ret2
   exact zF HS.symm HR.Fj jl.out rfl
  have h4b:((q:Int) == 4)=false:=adh.2 (by omega)
  by_cases hp:0<row.length\/0<field.length\/q≠0
  ·have HF:Hid (R=(rows++[row++[field]],0)):=by
    refine ah ?_;rw[<-HS.out,ay.fin,ade h2,ade h4,adk hp]
   by_cases hp1:0<row.length
   ·have e1:decide (0<row.length)=true:=by simpa using hp1
    clear hp
    go_wp2_with (at_builtin;refine fD rfl (.tmp 93) (.tmp 96) 34 9 (.string ⟨#[]⟩) 16 Tryz.underlying34 pR rfl (by decide) rfl w.heap.size (.slice A5 row.length c5) row.length (row.map S) wr rfl HR.uP (.string ⟨field.toArray⟩) rfl rfl (by omega) hB ?_)
    intro v1 w1 hown1 fH tN eX
    have HR1:=ah (HR.setRow (row':=row++[field]) fH (by simpa[S] using hown1) tN)
    have HB1:=ah (jl.trans eX);have hw1:=HB1.size;obtain⟨A7,c7,e7⟩:=aF hown1;subst e7
    clear hown1 fH tN eX hcv
    go_wp2_with (at_builtin;refine fD rfl (.tmp 92) (.tmp 98) 47 34 (.slice none 0 0) 24 Tryz.underlying47 Ae rfl (by decide) rfl w.heap.size (.slice A4 us.length c4) us.length us w1 rfl HR1.own4 (.slice A7 (row.length+1) c7) rfl rfl (by omega) hw1 ?_)
    intro v2 w2 hown2 yX _ nC
    have HO:=ah (OwnRows.snoc HR1.len hown2 (fun k u r hu hr=>uo (HR1.inner k u r hu hr) yX HR1.own4 (by decide)) (uo HR1.uP yX HR1.own4 (by decide)) HR1.dist HR1.far)
    have HB2:=ah (HB1.trans nC);clear hown2 yX nC;go_wp2
    go_ret2
    exact zF HF.out HO.out HB2.out rfl
   have e1:decide (0<row.length)=false:=by simpa using hp1
   by_cases hp2:0<field.length
   ·have e2:decide (0<field.length)=true:=by simpa using hp2
    clear hp
    go_wp2_with (at_builtin;refine fD rfl (.tmp 93) (.tmp 96) 34 9 (.string ⟨#[]⟩) 16 Tryz.underlying34 pR rfl (by decide) rfl w.heap.size (.slice A5 row.length c5) row.length (row.map S) wr rfl HR.uP (.string ⟨field.toArray⟩) rfl rfl (by omega) hB ?_)
    intro v1 w1 hown1 fH tN eX
    have HR1:=ah (HR.setRow (row':=row++[field]) fH (by simpa[S] using hown1) tN)
    have HB1:=ah (jl.trans eX);have hw1:=HB1.size;obtain⟨A7,c7,e7⟩:=aF hown1;subst e7
    clear hown1 fH tN eX hcv
    go_wp2_with (at_builtin;refine fD rfl (.tmp 92) (.tmp 98) 47 34 (.slice none 0 0) 24 Tryz.underlying47 Ae rfl (by decide) rfl w.heap.size (.slice A4 us.length c4) us.length us w1 rfl HR1.own4 (.slice A7 (row.length+1) c7) rfl rfl (by omega) hw1 ?_)
    intro v2 w2 hown2 yX _ nC
    have HO:=ah (OwnRows.snoc HR1.len hown2 (fun k u r hu hr=>uo (HR1.inner k u r hu hr) yX HR1.own4 (by decide)) (uo HR1.uP yX HR1.own4 (by decide)) HR1.dist HR1.far)
    have HB2:=ah (HB1.trans nC);clear hown2 yX nC;go_wp2
    go_ret2
    exact zF HF.out HO.out HB2.out rfl
   have e2:decide (0<field.length)=false:=by simpa using hp2
   have h0b:((q:Int) !=0)=true:=adY.2 (by omega)
   clear hp
   go_wp2_with (at_builtin;refine fD rfl (.tmp 93) (.tmp 96) 34 9 (.string ⟨#[]⟩) 16 Tryz.underlying34 pR rfl (by decide) rfl w.heap.size (.slice A5 row.length c5) row.length (row.map S) wr rfl HR.uP (.string ⟨field.toArray⟩) rfl rfl (by omega) hB ?_)
   intro v1 w1 hown1 fH tN eX
   have HR1:=ah (HR.setRow (row':=row++[field]) fH (by simpa[S] using hown1) tN)
   have HB1:=ah (jl.trans eX);have hw1:=HB1.size;obtain⟨A7,c7,e7⟩:=aF hown1;subst e7
   clear hown1 fH tN eX hcv
   go_wp2_with (at_builtin;refine fD rfl (.tmp 92) (.tmp 98) 47 34 (.slice none 0 0) 24 Tryz.underlying47 Ae rfl (by decide) rfl w.heap.size (.slice A4 us.length c4) us.length us w1 rfl HR1.own4 (.slice A7 (row.length+1) c7) rfl rfl (by omega) hw1 ?_)
   intro v2 w2 hown2 yX _ nC
   have HO:=ah (OwnRows.snoc HR1.len hown2 (fun k u r hu hr=>uo (HR1.inner k u r hu hr) yX HR1.own4 (by decide)) (uo HR1.uP yX HR1.own4 (by decide)) HR1.dist HR1.far)
   have HB2:=ah (HB1.trans nC);clear hown2 yX nC;go_wp2
   go_ret2
   exact zF HF.out HO.out HB2.out rfl
  have e1:decide (0<row.length)=false:=ac5 (by omega)
  have e2:decide (0<field.length)=false:=ac5 (by omega)
  obtain rfl:q=0:=by omega
  have HF:Hid (R=(rows,0)):=by
   refine ah ?_;rw[<-HS.out,ay.fin,ade h2,ade h4,ade hp]
  clear hcv hp;go_wp2
  go_ret2
  exact zF HF.out HR.Fj jl.out rfl
 |succ g=>
  have hks:k<s.size:=by have:=HK.out;omega
  have aqU:(k:Int)<s.size:=by omega
  obtain⟨c,hc⟩:=aj (s[k]'hks)
  have HS:Hid ((match ay.step ⟨q,rows,row,field⟩ c with|.inl s'=>ay.read s' (s.data.toList.drop (k+1))|.inr e=>(rows,e))=R):=by
   refine ah ?_;rw[<-iJ.out];have h1:=Lib.data_getElem? s k hks;rw[hc]at h1
   obtain⟨h2,h3⟩:=adw.1 h1;rw[aez h2,h3];rfl
  clear iJ
  have hbyte: ∀d:UInt8,c≠d->((c.toNat:Int) ==(d.toNat:Int))=false:=fun d h=>adh.2 (fun e=>h (UInt8.toNat.inj (by omega)))
  have agi: ∀d:UInt8,c≠d->((c.toNat:Int) !=(d.toNat:Int))=true:=fun d h=>adY.2 (fun e=>h (UInt8.toNat.inj (by omega)))
  have yB:=ah hbyte;have apa:=ah agi;clear hbyte agi;by_cases h4:q=4
  ·subst h4
   by_cases h10:c=10
   ·subst h10
    have HST:Hid (ay.read ⟨0,rows++[row],[],[]⟩ (s.data.toList.drop (k+1))=R):=by
     refine ah ?_
     have h0:ay.step ⟨4,rows,row,field⟩ 10=.inl ⟨0,rows++[row],[],[]⟩:=by rfl
     have h1:=HS.out;rw[h0]at h1;exact h1
    clear HS;clear hcv
    go_wp2_with (at_builtin;refine fD rfl (.tmp 27) (.tmp 29) 47 34 (.slice none 0 0) 24 Tryz.underlying47 Ae rfl (by decide) rfl w.heap.size (.slice A4 us.length c4) us.length us wr rfl HR.own4 (.slice A5 row.length c5) rfl rfl (by omega) hB ?_)
    intro v1 w1 hown1 fH _ eX;have vV:=ah hown1;have qQ:=ah fH;have HB1:=ah (jl.trans eX)
    have hw1:=HB1.size;clear hown1 fH eX;go_wp2
    go_roundg g
    case measure=>omega
    refine⟨k+1,_,0,_,[],[],by have:=HK.out;omega,by go_num,rfl,by omega,(HB1.alloc hw1 _).alloc (by simp;omega) _,HR.push vV.out qQ.out (wO (wO (mO _ _) _) _) ?_ ⟨_,rfl,ac4 _⟩ ?_,HST.out,by simp;omega,by simp,by simp⟩
    ·exact World.ownsRow.alloc (y7 w1 w.heap.size 9 0 #[] hw1 rfl) _
    have:=y7 (w1.alloc (.cells #[] 9)) w.heap.size 5 0 #[] (by simp;omega) rfl
    simpa[OwnB,Lib.byteCells] using this
   have hne:((c.toNat:Int) !=10)=true:=apa.out 10 h10
   have HST:Hid (ay.step ⟨4,rows,row,field⟩ c=.inr 211):=ah (by unfold ay.step;rw[adk rfl,ade h10])
   go_wp2
   go_ret2
   exact zF (by have h1:=HS.out;rw[HST.out]at h1;exact h1.symm) HR.Fj jl.out rfl
  have h4b:((q:Int) == 4)=false:=adh.2 (by omega)
  by_cases h2:q=2
  ·subst h2
   by_cases fQ:c=34
   ·subst fQ
    have HST:Hid (ay.read ⟨3,rows,row,field⟩ (s.data.toList.drop (k+1))=R):=by
     refine ah ?_;have h0:ay.step ⟨2,rows,row,field⟩ 34=.inl ⟨3,rows,row,field⟩:=by rfl
     have h1:=HS.out;rw[h0]at h1;exact h1
    clear HS;clear hcv;go_wp2
    go_roundg g
    case measure=>omega
    exact⟨k+1,us,3,rows,row,field,by have:=HK.out;omega,by go_num,rfl,by omega,jl.out,HR.out,HST.out,by omega,by omega,by omega⟩
   have hne:((c.toNat:Int) == 34)=false:=yB.out 34 fQ
   have HST:Hid (ay.read ⟨2,rows,row,field++[c]⟩ (s.data.toList.drop (k+1))=R):=by
    refine ah ?_
    have h0:ay.step ⟨2,rows,row,field⟩ c=.inl ⟨2,rows,row,field++[c]⟩:=by unfold ay.step;rw[ade (by simp),adk rfl,ade fQ]
    have h1:=HS.out;rw[h0]at h1;exact h1
   clear HS;clear hcv
   go_wp2_with (at_builtin;refine uV rfl (.tmp 37) (.tmp 39) rfl w.heap.size (.slice A6 field.length c6) field wr rfl HR.CS [c] [.int .u8 (c.toNat:Int)] (byteCells_one c).symm 1 rfl rfl (by omega) (by decide) hB ?_)
   intro v1 w1 hown1 fH eX;have HR1:=ah (HR.Kr fH hown1);have HB1:=ah (jl.trans eX)
   clear hown1 fH eX;go_wp2
   go_roundg g
   case measure=>omega
   exact⟨k+1,us,2,rows,row,_,by have:=HK.out;omega,by go_num,rfl,by omega,HB1.out,HR1.out,HST.out,by omega,by omega,by simp;omega⟩
  have h2b:((q:Int) == 2)=false:=adh.2 (by omega)
  by_cases fQ:c=34
  ·subst fQ
   by_cases h1:q=1
   ·subst h1
    have HST:Hid (ay.step ⟨1,rows,row,field⟩ 34=.inr 210):=ah (by rfl)
    go_wp2
    go_ret2
    exact zF (by have h1:=HS.out;rw[HST.out]at h1;exact h1.symm) HR.Fj jl.out rfl
   have h1b:((q:Int) == 1)=false:=adh.2 (by omega)
   by_cases h3:q=3
   ·subst h3
    have HST:Hid (ay.read ⟨2,rows,row,field++[34]⟩ (s.data.toList.drop (k+1))=R):=by
     refine ah ?_
     have h0:ay.step ⟨3,rows,row,field⟩ 34=.inl ⟨2,rows,row,field++[34]⟩:=by rfl
     have h1:=HS.out;rw[h0]at h1;exact h1
    clear HS;clear hcv
    go_wp2_with (at_builtin;refine uV rfl (.tmp 56) (.tmp 58) rfl w.heap.size (.slice A6 field.length c6) field wr rfl HR.CS [34] [.int .u8 34] bc34 1 rfl rfl (by omega) (by decide) hB ?_)
    intro v1 w1 hown1 fH eX;have HR1:=ah (HR.Kr fH hown1);have HB1:=ah (jl.trans eX)
    clear hown1 fH eX;go_wp2
    go_roundg g
    case measure=>omega
    exact⟨k+1,us,2,rows,row,_,by have:=HK.out;omega,by go_num,rfl,by omega,HB1.out,HR1.out,HST.out,by omega,by omega,by simp;omega⟩
   have h3b:((q:Int) == 3)=false:=adh.2 (by omega)
   obtain rfl:q=0:=by omega
   have HST:Hid (ay.read ⟨2,rows,row,field⟩ (s.data.toList.drop (k+1))=R):=by
    refine ah ?_;have h0:ay.step ⟨0,rows,row,field⟩ 34=.inl ⟨2,rows,row,field⟩:=by rfl
    have h1:=HS.out;rw[h0]at h1;exact h1
   clear HS;clear hcv;go_wp2
   go_roundg g
   case measure=>omega
   exact⟨k+1,us,2,rows,row,field,by have:=HK.out;omega,by go_num,rfl,by omega,jl.out,HR.out,HST.out,by omega,by omega,by omega⟩
  have aqV:((c.toNat:Int) == 34)=false:=yB.out 34 fQ;by_cases iU:c=44
  ·subst iU
   have HST:Hid (ay.read ⟨0,rows,row++[field],[]⟩ (s.data.toList.drop (k+1))=R):=by
    refine ah ?_
    have h0:ay.step ⟨q,rows,row,field⟩ 44=.inl ⟨0,rows,row++[field],[]⟩:=by unfold ay.step;rw[ade h4,ade h2,ade fQ,adk (.inl rfl)];rfl
    have h1:=HS.out;rw[h0]at h1;exact h1
   clear HS
   go_wp2_with (at_builtin;refine fD rfl (.tmp 63) (.tmp 66) 34 9 (.string ⟨#[]⟩) 16 Tryz.underlying34 pR rfl (by decide) rfl w.heap.size (.slice A5 row.length c5) row.length (row.map S) wr rfl HR.uP (.string ⟨field.toArray⟩) rfl rfl (by omega) hB ?_)
   intro v1 w1 hown1 fH tN eX
   have HR1:=ah (HR.setRow (row':=row++[field]) fH (by simpa[S] using hown1) tN)
   have HB1:=ah (jl.trans eX);have hw1:=HB1.size;clear hown1 fH tN eX hcv;go_wp2
   go_roundg g
   case measure=>omega
   exact⟨k+1,us,0,rows,_,[],by have:=HK.out;omega,by go_num,rfl,by omega,HB1.alloc hw1 _,HR1.Kr (wO (mO _ _) _) (y7 w1 w.heap.size 5 0 #[] hw1 rfl),HST.out,by omega,by simp;omega,by simp⟩
  have aqW:((c.toNat:Int) == 44)=false:=yB.out 44 iU;by_cases h13:c=13
  ·subst h13
   have HST:Hid (ay.read ⟨4,rows,row++[field],[]⟩ (s.data.toList.drop (k+1))=R):=by
    refine ah ?_
    have h0:ay.step ⟨q,rows,row,field⟩ 13=.inl ⟨4,rows,row++[field],[]⟩:=by unfold ay.step;rw[ade h4,ade h2,ade fQ,adk (.inr rfl)];rfl
    have h1:=HS.out;rw[h0]at h1;exact h1
   clear HS
   go_wp2_with (at_builtin;refine fD rfl (.tmp 63) (.tmp 66) 34 9 (.string ⟨#[]⟩) 16 Tryz.underlying34 pR rfl (by decide) rfl w.heap.size (.slice A5 row.length c5) row.length (row.map S) wr rfl HR.uP (.string ⟨field.toArray⟩) rfl rfl (by omega) hB ?_)
   intro v1 w1 hown1 fH tN eX
   have HR1:=ah (HR.setRow (row':=row++[field]) fH (by simpa[S] using hown1) tN)
   have HB1:=ah (jl.trans eX);have hw1:=HB1.size;clear hown1 fH tN eX hcv;go_wp2
   go_roundg g
   case measure=>omega
   exact⟨k+1,us,4,rows,_,[],by have:=HK.out;omega,by go_num,rfl,by omega,HB1.alloc hw1 _,HR1.Kr (wO (mO _ _) _) (y7 w1 w.heap.size 5 0 #[] hw1 rfl),HST.out,by omega,by simp;omega,by simp⟩
  have aqX:((c.toNat:Int) == 13)=false:=yB.out 13 h13;by_cases h10:c=10
  ·subst h10
   have HST:Hid (ay.step ⟨q,rows,row,field⟩ 10=.inr 211):=ah (by unfold ay.step;rw[ade h4,ade h2,ade fQ,ade (by simp),adk rfl])
   go_wp2
   go_ret2
   exact zF (by have h1:=HS.out;rw[HST.out]at h1;exact h1.symm) HR.Fj jl.out rfl
  have aqY:((c.toNat:Int) == 10)=false:=yB.out 10 h10;by_cases h3:q=3
  ·subst h3
   have HST:Hid (ay.step ⟨3,rows,row,field⟩ c=.inr 210):=ah (by unfold ay.step;rw[ade (by simp),ade (by simp),ade fQ,ade (by simp[iU,h13]),ade h10,adk rfl])
   go_wp2
   go_ret2
   exact zF (by have h1:=HS.out;rw[HST.out]at h1;exact h1.symm) HR.Fj jl.out rfl
  have h3b:((q:Int) == 3)=false:=adh.2 (by omega)
  have HST:Hid (ay.read ⟨1,rows,row,field++[c]⟩ (s.data.toList.drop (k+1))=R):=by
   refine ah ?_
   have h0:ay.step ⟨q,rows,row,field⟩ c=.inl ⟨1,rows,row,field++[c]⟩:=by unfold ay.step;rw[ade h4,ade h2,ade fQ,ade (by simp[iU,h13]),ade h10,ade h3]
   have h1:=HS.out;rw[h0]at h1;exact h1
  clear HS;clear hcv
  go_wp2_with (at_builtin;refine uV rfl (.tmp 45) (.tmp 47) rfl w.heap.size (.slice A6 field.length c6) field wr rfl HR.CS [c] [.int .u8 (c.toNat:Int)] (byteCells_one c).symm 1 rfl rfl (by omega) (by decide) hB ?_)
  intro v1 w1 hown1 fH eX;have HR1:=ah (HR.Kr fH hown1);have HB1:=ah (jl.trans eX)
  clear hown1 fH eX;go_wp2
  go_roundg g
  case measure=>omega
  exact⟨k+1,us,1,rows,row,_,by have:=HK.out;omega,by go_num,rfl,by omega,HB1.out,HR1.out,HST.out,by omega,by omega,by simp;omega⟩
theorem ac3 (s:ByteArray) (hs:s.size<=16777216) (w:World):
  Calls Tryz.prog 14 #[.string s] w (Vj (if(ay.rowsOf s.data.toList).2=0 then((ay.rowsOf s.data.toList).1,0) else([],(ay.rowsOf s.data.toList).2)) w):=by
 have hrd:=fun wx=>amB s hs wx
 obtain⟨R,hR⟩:=aj (ay.rowsOf s.data.toList);rw[hR]at hrd⊢;clear hR;obtain⟨rows,n⟩:=R
 by_cases hn:n=0
 ·subst hn
  go_enter Tryz.func14,Tryz.ntmps14
  go_wp2_with (go_at_call 46;refine(hrd _).mono ?_;rintro e w1 ⟨v,rfl,ho,hb⟩)
  go_ret2
  exact⟨v,rfl,ho,hb⟩
 have h0:((n:Int) !=0)=true:=adY.2 (by omega)
 rw[ade hn];go_enter Tryz.func14,Tryz.ntmps14
 go_wp2_with (go_at_call 46;refine(hrd _).mono ?_;rintro e w1 ⟨v,rfl,ho,hb⟩)
 go_ret2
 exact⟨_,rfl,⟨[],rfl,y7 w1 _ _ 0 _ hb.size rfl,fun k u r h=>by simp at h,fun i j u u' _ h=>by simp at h⟩,hb.alloc hb.size _⟩
structure RY (w V:World):Prop where
 box:au V w.heap.size 26 #[.slice none 0 0,.slice none 0 0]
 non:au V (w.heap.size+1) 26 #[.slice none 0 0,.slice none 0 0]
 bel:Below w.heap.size w V
theorem RY.below {w V V':World} (h:RY w V) (hb:Below V.heap.size V V'):RY w V':=⟨h.box.below hb h.box.lt,h.non.below hb h.non.lt,h.bel.trans (hb.mono h.bel.size)⟩
theorem amC {g:Gr.G} (h:Cy.uD g):Small g:=
 ⟨adg h.lens.1 (by decide),adg h.lens.2 (by decide),fun n hn=>adg (h.ns n hn).ll (by decide),fun n hn=>adg (h.ns n hn).pl (by decide),fun n hn=>adg (h.rs n hn).pl (by decide)⟩
theorem amD (s t:ByteArray) (w:World):
  Calls Tryz.prog 6 #[.string s,.string t] w (abU w (Tb.parse s.data.toList t.data.toList)):=by
 obtain⟨R,hR⟩:=aj (Tb.parse s.data.toList t.data.toList);rw[hR];unfold Tb.parse at hR
 rw[<-Lib.size_eq s,<-Lib.size_eq t]at hR
 obtain⟨W1,hW1⟩:=aj ((w.alloc (.cells #[.slice none 0 0,.slice none 0 0] 26)).alloc (.cells #[.slice none 0 0,.slice none 0 0] 26))
 have hS1:RY w W1:=⟨hW1▸(au.new w _ _).alloc _,hW1▸(by have:=au.new (w.alloc (.cells #[.slice none 0 0,.slice none 0 0] 26)) 26 #[.slice none 0 0,.slice none 0 0];rw[World.size_alloc]at this;exact this),hW1▸((Below.refl _ w).alloc (ac4 _) _).alloc (by simp) _⟩
 have vY:=ah hS1;have yD:=ah (hS1.box.failed hS1.bel);have HW1:=ah hW1
 obtain⟨a0,a1⟩:=cells2 hS1.box;obtain⟨b0,b1⟩:=cells2 hS1.non;have f0:=hS1.box.frozen 0
 have f1:=hS1.box.frozen 1;clear hS1 hW1;by_cases hs1:16777216<s.size
 ·rw[adk (.inl hs1)]at hR
  subst hR;have hsI:(16777216:Int)<s.size:=by omega
  go_enter Tryz.func6,Tryz.ntmps6
  go_upto_region 2 with fail
  rw[HW1.out];clear HW1;go_wp2_with fail
  exact pW rfl (by simp) (by simp) (yD.out _ _).1 ⟨_,rfl,dR.G0 _ _,(yD.out _ _).2⟩
 have hsI:(s.size:Int)<=16777216:=by omega
 by_cases ht1:16777216<t.size
 ·rw[adk (.inr ht1)]at hR
  subst hR;have QZ:(16777216:Int)<t.size:=by omega
  clear hs1;go_enter Tryz.func6,Tryz.ntmps6
  go_upto_region 2 with fail
  rw[HW1.out];clear HW1;go_wp2_with fail
  exact pW rfl (by simp) (by simp) (yD.out _ _).1 ⟨_,rfl,dR.G0 _ _,(yD.out _ _).2⟩
 rw[ade (fun h=>h.elim hs1 ht1)]at hR
 have QZ:(t.size:Int)<=16777216:=by omega
 have hcs:=fun(V:World)=>ac3 s (by omega) V
 have hct:=fun(V:World)=>ac3 t (by omega) V
 obtain⟨la,hla⟩:=aj s.data.toList;obtain⟨lb,hlb⟩:=aj t.data.toList
 have hal:la.length<=16777216:=by rw[<-hla,<-Lib.size_eq];omega
 have hbl:lb.length<=16777216:=by rw[<-hlb,<-Lib.size_eq];omega
 rw[hla]at hcs hR;rw[hlb]at hct hR;have dS:=ah (Tb.rows_row hal)
 have iI:=ah (Tb.rows_row hbl);have Gy:=P7 la;have Gz:=P7 lb
 obtain⟨ra,hra⟩:=aj (ay.rowsOf la);obtain⟨rb,hrb⟩:=aj (ay.rowsOf lb);obtain⟨ra,ea⟩:=ra
 obtain⟨rb,eb⟩:=rb;rw[hra]at hcs hR dS Gy;rw[hrb]at hct hR iI Gz
 simp only at hcs hct hR dS iI Gy Gz
 obtain⟨RA,GX⟩:=aj ((if ea=0 then(ra,0) else([],ea)):List (List ay.F)×Nat)
 obtain⟨RB,Yn⟩:=aj ((if eb=0 then(rb,0) else([],eb)):List (List ay.F)×Nat)
 rw[GX]at hcs;rw[Yn]at hct;have yE:=ah hcs;have MP:=ah hct;have HR:=ah hR
 have Yo:=ah GX;have Yp:=ah Yn;have MQ:=ah (show ra.length<=16777217 by omega)
 have Xd:=ah (show rb.length<=16777217 by omega)
 clear hcs hct hR hra hrb hla hlb hal hbl hs1 ht1 Gy Gz GX Yn
 go_enter Tryz.func6,Tryz.ntmps6
 go_upto_region 2 with fail
 rw[HW1.out];clear HW1;go_wp2_with fail;refine(yE.out W1).mono ?_
 rintro e w2 ⟨v,rfl,hv,b2⟩;have HS2:=ah (vY.below b2)
 have HF2:=ah (HS2.box.failed HS2.bel);clear a0 a1 b0 b1 f0 f1 b2 yE yD vY
 obtain⟨a0,a1⟩:=cells2 HS2.box;obtain⟨b0,b1⟩:=cells2 HS2.non;have f0:=HS2.box.frozen 0
 have f1:=HS2.box.frozen 1;have hR1:=HR.out;by_cases hea:ea=0
 case neg=>
  have hq:=Yo.out;rw[ade hea]at hq;subst hq;rw[adk hea]at hR1;subst hR1
  have t1:((ea:Int) !=0)=true:=by rw[adY];omega
  clear hv hea;go_wp2_with fail
  exact pW rfl (by simp) (by simp) (HF2.out _ _).1 ⟨_,rfl,dR.G0 _ _,(HF2.out _ _).2⟩
 subst hea;have hq:=Yo.out;rw[adk rfl]at hq;subst hq;rw[ade (by simp)]at hR1
 have HV:=ah hv;have HR2:=ah hR1;clear hv hR1 HR Yo;go_wp2_with fail
 refine(MP.out w2).mono ?_;rintro e w3 ⟨v',rfl,hv,b3⟩;have aZ:=ah (HS2.below b3)
 have HF3:=ah (aZ.box.failed aZ.bel)
 have MR:=ah (HV.kt (Kt.of_below (T:=0) (base:=0) b3 (afP _)) (by decide) (by decide))
 clear a0 a1 b0 b1 f0 f1 b3 MP HF2 HS2 HV;obtain⟨a0,a1⟩:=cells2 aZ.box
 obtain⟨b0,b1⟩:=cells2 aZ.non;have f0:=aZ.box.frozen 0;have f1:=aZ.box.frozen 1
 have hR1:=HR2.out;by_cases heb:eb=0
 case neg=>
  have hq:=Yp.out;rw[ade heb]at hq;subst hq;rw[adk heb]at hR1;subst hR1
  have t1:((eb:Int) !=0)=true:=by rw[adY];omega
  clear hv heb;go_wp2_with fail
  exact pW rfl (by simp) (by simp) (HF3.out _ _).1 ⟨_,rfl,dR.G0 _ _,(HF3.out _ _).2⟩
 subst heb;have hq:=Yp.out;rw[adk rfl]at hq;subst hq;rw[ade (by simp)]at hR1
 have MS:=ah hv;have BK:=kY.dI MR.out;obtain⟨A1,c1,rfl,-,-⟩:=BK.form
 obtain⟨n1,hn1⟩:=aj ra.length;rw[hn1]at BK
 have hpn:=amg w3.heap.size A1 n1 c1 ra w3 BK hn1 (by rw[<-hn1];exact MQ.out) dS.out (ac4 _)
 obtain⟨Q,hQ⟩:=aj (Tb.nodesOf ra);obtain⟨ns,en⟩:=Q;rw[hQ]at hpn hR1;simp only at hR1
 have dY:=ah hpn
 have yF:=ah (show en=0->Tb.Ns ns/\ns.length<=16777217 from fun h=>by
  subst h
  exact⟨Tb.Uw hQ dS.out,adg (abZ hQ) MQ.out⟩)
 have HR4:=ah hR1;have agj:=ah aZ.bel.size;rw[hn1];clear hv hR1 BK hpn hQ hn1 HR2 Yp
 go_wp2_with fail;refine dY.mono ?_;rintro e w4 ⟨vn,cs,ids,rfl,bK,on,b4⟩
 obtain⟨cz,hcz,hz,-,-⟩:=Vd
 have hsc:=run_storeCells_new (P:=Tryz.prog) w4 59 cz cs (oO bK.1) (hcz.trans bK.1.symm) bK.one
 obtain⟨W5,bZ⟩:=aj (w4.alloc (.cells cs 59));obtain⟨tb,htb⟩:=aj w4.heap.size
 have hb5:Below w4.heap.size w4 W5:=bZ▸(Below.refl _ w4).alloc (ac4 _) _
 have h35:Below w3.heap.size w3 W5:=b4.trans (hb5.mono b4.size)
 have QW:=ah (show au W5 tb 59 cs by rw[<-bZ,<-htb];exact au.new _ _ _)
 have dw:=ah (aZ.below h35);have GH:=ah (dw.box.failed dw.bel)
 have HV5:=ah (MS.kt (Kt.of_below (T:=0) (base:=0) h35 (afP _)) (by decide) (by decide))
 have nH:=ah (fun(h:en=0)=>And.intro ((on h).1.kt (Kt.of_below (T:=0) (base:=0) hb5 (afP _)) (by decide) (by decide) (by decide) (by decide)) (on h).2)
 have HTC:=ah bK;have hcs1:cs.size=1024:=bK.1;have jH:=ah bZ;have HTB:=ah htb
 have MV:=ah h35.size;clear a0 a1 b0 b1 f0 f1 b4 on bK bZ htb hb5 h35 dY HF3 aZ MR MS
 go_upto_region 11 with fail
 rw[jH.out,HTB.out];clear jH HTB hsc hz hcz hcs1;obtain⟨a0,a1⟩:=cells2 dw.box
 obtain⟨b0,b1⟩:=cells2 dw.non;have f0:=dw.box.frozen 0;have f1:=dw.box.frozen 1
 have hR1:=HR4.out;by_cases hen:en=0
 case neg=>
  rw[adk hen]at hR1;subst hR1;have t1:((en:Int) !=0)=true:=by rw[adY];omega
  clear hen;go_wp2_with fail
  exact pW rfl (by simp) (by simp) (GH.out _ _).1 ⟨_,rfl,dR.G0 _ _,(GH.out _ _).2⟩
 subst hen;rw[ade (by simp)]at hR1
 obtain⟨hNs,hNl⟩:=yF.out rfl;obtain⟨RZ,oz⟩:=nH.out rfl;subst oz
 obtain⟨A2,c2,rfl⟩:=RZ.form;obtain⟨n2,hn2⟩:=aj ns.length;rw[hn2]at RZ⊢
 have BL:=kY.dI HV5.out;obtain⟨A3,c3,rfl,-,-⟩:=BL.form;obtain⟨n3,hn3⟩:=aj rb.length
 rw[hn3]at BL
 have hpr:=amk W5.heap.size A3 n3 c3 rb cs (ns.map Gr.N.id) W5 BL hn3 (by rw[<-hn3];exact Xd.out) iI.out (ac4 _) HTC.out
 obtain⟨Q,hQ⟩:=aj (Tb.oL (ns.map Gr.N.id) rb);obtain⟨rs,er⟩:=Q;rw[hQ]at hpr hR1
 simp only at hR1;have cZ:=ah hpr
 have GI:=ah (show er=0->Tb.Rs rs from fun h=>by subst h;exact Tb.Ux hQ iI.out)
 have vZ:=ah hNs;have Jl:=ah RZ;have tu:=ah hn2;have wF:=ah hR1;rw[hn3]
 clear hR1 BL hpr hQ hn3 hNs hNl RZ hn2 HR4 yF nH HV5
 go_wp2_with (refine wpList_load_row rfl 59 (.tmp 11) rfl _ rfl 59 cs (0,0) _ QW.out Tryz.underlying59 rfl (oO HTC.out.1) ?_)
 refine cZ.mono ?_;rintro e w6 ⟨vr,rfl,Ef,b6⟩;have jI:=ah (dw.below b6)
 have HF6:=ah (jI.box.failed jI.bel)
 have HN6:=ah (Jl.kt (Kt.of_below (T:=0) (base:=0) b6 (afP _)) (by decide) (by decide) (by decide) (by decide))
 have HZ6:=ah b6.size;clear a0 a1 b0 b1 f0 f1 b6 cZ GH Jl;obtain⟨a0,a1⟩:=cells2 jI.box
 obtain⟨b0,b1⟩:=cells2 jI.non;have f0:=jI.box.frozen 0;have f1:=jI.box.frozen 1
 have hR1:=wF.out;by_cases her:er=0
 case neg=>
  rw[adk her]at hR1;subst hR1;have t1:((er:Int) !=0)=true:=by rw[adY];omega
  clear her Ef;go_wp2_with fail
  exact pW rfl (by simp) (by simp) (HF6.out _ _).1 ⟨_,rfl,dR.G0 _ _,(HF6.out _ _).2⟩
 subst her;rw[ade (by simp)]at hR1
 have hor:=Ef rfl;obtain⟨A4,c4,rfl⟩:=hor.form;obtain⟨n4,hn4⟩:=aj rs.length
 obtain⟨g,hg⟩: ∃g:Gr.G,g=⟨ns,rs⟩:=⟨_,rfl⟩;have hsz:Cy.uD g:=hg▸Tb.Uy vZ.out (GI.out rfl)
 have hgo:dR w6 w.heap.size (.agg #[.slice A2 n2 c2,.slice A4 rs.length c4]) g:=hg▸ab1 HN6.out hor agj.out (adg agj.out MV.out)
 have hds:JZ g:=hg▸ab2 vZ.out (GI.out rfl);have hsm:Small g:=amC hsz;rw[<-hg]at hR1
 rw[hn4]at hgo⊢;have HC:=ah (amA w6.heap.size _ g w6 (hgo.yC hsz.ok) (ac4 _) hsm hds)
 have HS:=ah hsz;have Eh:=ah hR1;clear hR1 hg hsz hgo hds hsm wF GI vZ hor Ef hn4 HN6
 go_wp2_with fail;refine HC.mono ?_;rintro e w8 ⟨u8,rfl,g8,b8⟩
 obtain⟨A5,m5,c5,A6,m6,c6,rfl⟩: ∃A n c B m d,u8=.agg #[.slice A n c,.slice B m d]:=by
  obtain⟨sn,sr,ln,lr,rfl,-,-,h3,-,-,h6⟩:=g8;obtain⟨A,c,rfl⟩:=aF h3
  obtain⟨B,d,rfl⟩:=aF h6;exact⟨A,_,c,B,_,d,rfl⟩
 obtain⟨W9,qC⟩:=aj (w8.alloc (.cells #[.slice A5 m5 c5,.slice A6 m6 c6] 26))
 obtain⟨gb,hgb⟩:=aj w8.heap.size
 have aB:Below w8.heap.size w8 W9:=qC▸(Below.refl _ w8).alloc (ac4 _) _
 have h69:Below w6.heap.size w6 W9:=b8.trans (aB.mono b8.size)
 have bH:=ah (show au W9 gb 26 #[.slice A5 m5 c5,.slice A6 m6 c6] by rw[<-qC,<-hgb];exact au.new _ _ _)
 have fC:=ah (jI.below h69);have aN:=g8.below aB;have kK:=ah aN
 have bf:=ah (alu W9.heap.size _ _ W9 (aN.yC (Cy.TY HS.out).ok) (ac4 _));have D8:=ah qC
 have Ez:=ah hgb;have apb:=ah jI.bel.size
 clear a0 a1 b0 b1 f0 f1 g8 b8 aB h69 aN qC hgb HC HF6 jI
 go_upto_region 17 with fail
 rw[D8.out,Ez.out];clear D8 Ez;obtain⟨d0,d1⟩:=cells2 bH.out;go_wp2_with fail
 refine bf.mono ?_;rintro e w10 ⟨rfl,b10⟩;have EH:=ah (fC.below b10)
 have apc:=ah (bH.below b10 bH.lt);have Si:=ah (EH.box.failed EH.bel)
 have Xf:=ah (((kK.below b10).kt (Kt.cell (base:=0) EH.box (afP _) 0 (.slice A5 m5 c5)) (by decide) (by decide) (by decide) (by decide) (by decide)).kt (Kt.cell (base:=0) (EH.box.bP 0 (.slice A5 m5 c5)) (afP _) 1 (.slice A6 m6 c6)) (by decide) (by decide) (by decide) (by decide) (by decide))
 clear d0 d1 b10 bf bH fC kK;obtain⟨a0,a1⟩:=cells2 EH.box;obtain⟨b0,b1⟩:=cells2 EH.non
 obtain⟨d0,d1⟩:=cells2 apc.out;have f0:=EH.box.frozen 0;have f1:=EH.box.frozen 1
 obtain⟨E,hE⟩:=aj ((Gr.check (Gr.canon g)).1);rw[hE];have BM:=Eh.out;rw[hE]at BM
 clear hE Eh;by_cases hE0:E=0
 ·subst hE0
  obtain rfl:R=(Gr.canon g,0):=BM.symm;go_wp2_with fail
  exact pW rfl (by simp) (by simp) (Si.out _ _).1 ⟨_,rfl,Xf.lower apb.out,(Si.out _ _).2⟩
 obtain rfl:R=(Gr.G0,E):=by rw[adk hE0]at BM;exact BM.symm
 have hne:((E:Int) !=0)=true:=by simp;omega
 go_wp2_with fail
 exact pW rfl (by simp) (by simp) (Si.out _ _).1 ⟨_,rfl,dR.G0 _ _,(Si.out _ _).2⟩
theorem amE (s t:ByteArray) (w:World) (hs:s.size<=1073741823) (ht:t.size<=1073741823) (hL:Laid w):
  Calls Tryz.prog 3 #[.string s,.string t] w fun e w'=>e=.returned (.bool true)/\Below w.heap.size w w':=by
 have og:=ah (alz w (fun V hV=>hL.below hV))
 obtain⟨R,hR⟩:=aj (Tb.parse s.data.toList t.data.toList);obtain⟨g,e0⟩:=R
 have hsz:=Tb.aa7 hR
 have hp:=fun(V:World) (hb:Below w.heap.size w V)=>U5 s t hs ht V (fun X hX=>hL.below (hb.trans (hX.mono hb.size)))
 have hq:=fun(V:World)=>amD s t V
 rw[hR]at hp hq;have HP:=ah hp;have HQ:=ah hq;have aV:=ah (show DT g from hsz.1.ok)
 clear hR hp hq hL hsz;go_enter Tryz.func3,Tryz.ntmps3;go_wp2_with fail;refine og.mono ?_
 rintro e w1 ⟨rfl,b1⟩;have HB1:=ah b1;clear b1 og;go_wp2_with fail
 refine(HP.out w1 HB1.out).mono ?_;rintro e w2 ⟨u,rfl,hg,b2⟩;have Cj:=hg.yC aV.out
 obtain⟨nn,hnn⟩:=aj g.nodes.length;obtain⟨rn,hrn⟩:=aj g.aA.length
 obtain⟨A1,c1,A2,c2,rfl⟩:=Cj.form hnn hrn
 obtain⟨W3,hW3⟩:=aj (w2.alloc (.cells #[.slice A1 nn c1,.slice A2 rn c2] 26))
 obtain⟨gb,hgb⟩:=aj w2.heap.size
 have hb3:Below w2.heap.size w2 W3:=hW3▸(Below.refl _ w2).alloc (ac4 _) _
 have dB:=ah (show au W3 gb 26 #[.slice A1 nn c1,.slice A2 rn c2] by rw[<-hW3,<-hgb];exact au.new _ _ _)
 have vM:=ah (hg.below hb3)
 have HB3:=ah ((HB1.trans (b2.mono HB1.size)).trans (hb3.mono (adg HB1.size b2.size)))
 have HW3:=ah hW3;have Ez:=ah hgb;have aC:=ah (And.intro hnn hrn)
 clear hgb hW3 hb3 hnn hrn Cj hg b2 HP
 go_upto_region 4 with fail
 rw[HW3.out,Ez.out];clear HW3 Ez;go_wp2_with fail;refine(HQ.out W3).mono ?_
 rintro e w4 ⟨u4,rfl,hg4,b4⟩;have Cj:=hg4.yC aV.out
 obtain⟨A3,c3,A4,c4,rfl⟩:=Cj.form aC.out.1 aC.out.2
 obtain⟨W5,bZ⟩:=aj (w4.alloc (.cells #[.slice A3 nn c3,.slice A4 rn c4] 26))
 obtain⟨gc,hgc⟩:=aj w4.heap.size
 have hb5:Below w4.heap.size w4 W5:=bZ▸(Below.refl _ w4).alloc (ac4 _) _
 have nZ:=ah (show au W5 gc 26 #[.slice A3 nn c3,.slice A4 rn c4] by rw[<-bZ,<-hgc];exact au.new _ _ _)
 have h35:Below W3.heap.size W3 W5:=b4.trans (hb5.mono b4.size)
 have HKB:=ah (dB.below h35 dB.lt);have bG:=ah (HB3.trans (h35.mono HB3.size))
 have jE:=ah (aci W5.heap.size _ _ g W5 ((vM.below h35).yC aV.out) ((hg4.below hb5).yC aV.out) (ac4 _))
 have jH:=ah bZ;have NK:=ah hgc;clear hgc bZ hb5 Cj hg4 b4 h35 dB vM
 go_upto_region 5 with fail
 rw[jH.out,NK.out];clear jH NK;obtain⟨c0,c1'⟩:=cells2 HKB.out
 obtain⟨d0,d1'⟩:=cells2 nZ.out;go_wp2_with fail;refine jE.mono ?_;rintro e w6 ⟨rfl,b6⟩
 have dO:=ah (bG.trans (b6.mono bG.size));clear b6 c0 c1' d0 d1';go_wp2;go_ret
 exact⟨rfl,dO.out⟩
end Go.Proofs.YtkdakckjafomhaaGreatDoor
