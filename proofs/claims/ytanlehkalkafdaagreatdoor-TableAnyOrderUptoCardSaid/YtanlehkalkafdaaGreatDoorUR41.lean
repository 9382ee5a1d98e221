/- Contracts and plain laws,part 41. -/
import Derived.Test.YtanlehkalkafdaaGreatDoorUR28
set_option maxHeartbeats 64000000
set_option maxRecDepth 1000000
set_option linter.all false
namespace Go.Proofs.YtanlehkalkafdaaGreatDoor
open Go.RowKit
structure RSU (us:List Value) (w:World) (B:Nat) (v4 v5 v6:Value) (rows:List (List Csv.F)) (row:List Csv.F) (field:Csv.F):Prop where
 len:us.length=rows.length
 own4:w.ownsRow B 45 1 v4 us.length us
 inner: ∀(k:Nat) u r,us[k]?=some u->rows[k]?=some r->w.ownsRow B 9 1 u r.length (r.map S)
 dist: ∀(i j:Nat) u u',i<j->us[i]?=some u->us[j]?=some u'->u.ownBlock=none\/u.ownBlock≠u'.ownBlock
 own5:w.ownsRow B 9 1 v5 row.length (row.map S)
 far: ∀(i:Nat) u,us[i]?=some u->u.ownBlock=none\/u.ownBlock≠v5.ownBlock
 own6:OwnB B v6 field w
theorem own_grown_ty {w w':World} {B e e' n n' sz:Nat} {v x:Value} {xs ys:List Value} (h:w.ownsRow B e sz v n xs) (hg:w.grownBy w' x.ownBlock) (hx:w.ownsRow B e' 1 x n' ys) (hne:e'≠e):w'.ownsRow B e sz v n xs:=
 own_kept_ty h hg (fun g c t fz hr hc=>by
  obtain⟨_,c',hc'⟩:=own_blocks hx g hr;rw[hc']at hc;cases hc
  exact hne)
theorem own_grown_none {w w':World} {B e n sz:Nat} {v:Value} {xs:List Value} (h:w.ownsRow B e sz v n xs) (hg:w.grownBy w' none):w'.ownsRow B e sz v n xs:=
 own_kept_ty h hg (fun g c t fz hr=>by cases hr)
theorem RSU.rowsOwn {us:List Value} {w:World} {B:Nat} {v4 v5 v6:Value} {rows:List (List Csv.F)} {row:List Csv.F} {field:Csv.F} (h:RSU us w B v4 v5 v6 rows row field):OwnRows w B v4 rows:=
 ⟨us,h.len,h.own4,h.inner,h.dist⟩
theorem RSU.setField {us:List Value} {w w':World} {B:Nat} {v4 v5 v6 v6':Value} {rows:List (List Csv.F)} {row:List Csv.F} {field f':Csv.F} (h:RSU us w B v4 v5 v6 rows row field)
  (hg:w.grownBy w' v6.ownBlock) (h6:OwnB B v6' f' w'):RSU us w' B v4 v5 v6' rows row f':=
 ⟨h.len,own_grown_ty h.own4 hg h.own6 (by decide),fun k u r hu hr=>own_grown_ty (h.inner k u r hu hr) hg h.own6 (by decide),h.dist,own_grown_ty h.own5 hg h.own6 (by decide),h.far,h6⟩
theorem RSU.setRow {us:List Value} {w w':World} {B:Nat} {v4 v5 v5' v6:Value} {rows:List (List Csv.F)} {row row':List Csv.F} {field:Csv.F} (h:RSU us w B v4 v5 v6 rows row field)
  (hg:w.grownBy w' v5.ownBlock) (h5:w'.ownsRow B 9 1 v5' row'.length (row'.map S)) (hn:v5'.ownBlock=v5.ownBlock\/ ∃g,v5'.ownBlock=some g/\w.heap.size<=g):RSU us w' B v4 v5' v6 rows row' field:=
 ⟨h.len,own_grown_ty h.own4 hg h.own5 (by decide),fun k u r hu hr=>by
  refine(h.inner k u r hu hr).kept hg ?_;exact h.far k u hu,h.dist,h5,fun i u hu=>by
  rcases hn with e|⟨g,e,hge⟩
  ·rw[e];exact h.far i u hu
  cases hb:u.ownBlock with
  |none=>exact .inl rfl
  |some j=>
   refine .inr (fun e2=> ?_)
   rw[e]at e2;have hi:i<us.length:=(rZ.1 hu).1
   have hr:=ay (show i<rows.length by rw[<-h.len];exact hi)
   have:=((h.inner i u _ hu hr).lt j hb).2;cases e2
   omega,own_grown_ty h.own6 hg h.own5 (by decide)⟩
theorem RSU.push {us:List Value} {w w1 w2:World} {B:Nat} {v4 v4' v5 v5' v6 v6':Value} {rows:List (List Csv.F)} {row:List Csv.F} {field:Csv.F} (h:RSU us w B v4 v5 v6 rows row field)
  (h4:w1.ownsRow B 45 1 v4' (us.length+1) (us++[v5])) (hg:w.grownBy w1 v4.ownBlock) (hg2:w1.grownBy w2 none) (h5:w2.ownsRow B 9 1 v5' 0 []) (hn: ∃g,v5'.ownBlock=some g/\w1.heap.size<=g) (h6:OwnB B v6' [] w2):
  RSU (us++[v5]) w2 B v4' v5' v6' (rows++[row]) [] []:=by
 have hin: ∀(k:Nat) u r,us[k]?=some u->rows[k]?=some r->w1.ownsRow B 9 1 u r.length (r.map S):=fun k u r hu hr=>own_grown_ty (h.inner k u r hu hr) hg h.own4 (by decide)
 have hv5:w1.ownsRow B 9 1 v5 row.length (row.map S):=own_grown_ty h.own5 hg h.own4 (by decide)
 have hall: ∀(k:Nat) u r,(us++[v5])[k]?=some u->(rows++[row])[k]?=some r->w1.ownsRow B 9 1 u r.length (r.map S):=fun k u r hu hr=>by
  by_cases hk:k<us.length
  ·rw[uN hk]at hu
   rw[uN (by rw[<-h.len];exact hk)]at hr
   exact hin k u r hu hr
  rw[uI (by omega)]at hu
  rw[uI (by have:=h.len;omega)]at hr
  have hk0:k - us.length=0:=by
   have:=(rZ.1 hu).1
   simpa using this
  rw[<-h.len,hk0]at hr;rw[hk0]at hu;cases hu;cases hr;exact hv5
 refine⟨by simp[h.len], ?_,fun k u r hu hr=>own_grown_none (hall k u r hu hr) hg2,fun i j u u' hij hu hu'=> ?_,h5,fun i u hu=> ?_,h6⟩
 ·have:=own_grown_none h4 hg2
  simpa using this
 ·by_cases hj:j<us.length
  ·rw[uN hj]at hu'
   rw[uN (by omega)]at hu
   exact h.dist i j u u' hij hu hu'
  have hl:=(rZ.1 hu').1;simp at hl;rw[uN (by omega)]at hu
  rw[uI (by omega)]at hu'
  have hk0:j - us.length=0:=by omega
  rw[hk0]at hu';cases hu';exact h.far i u hu
 obtain⟨g,e,hge⟩:=hn;cases hb:u.ownBlock with
 |none=>exact .inl rfl
 |some j=>
  refine .inr (fun e2=> ?_)
  rw[e]at e2;have hi:i<(us++[v5]).length:=(rZ.1 hu).1
  have hr:=ay (show i<(rows++[row]).length by simp at hi⊢;have:=h.len;omega)
  have:=((hall i u _ hu hr).lt j hb).2;cases e2;omega
def ReadRes (r:List (List Csv.F)×Nat) (w:World) (e:Ending) (w':World):Prop:=
 ∃v,e=.returned (.tuple #[v,.int .i64 r.2])/\OwnRows w' w.heap.size v r.1/\Below w.heap.size w w'
theorem readRes_of {r:List (List Csv.F)×Nat} {w w':World} {v:Value} {rows:List (List Csv.F)} {n:Nat} (h:r=(rows,n)) (ho:OwnRows w' w.heap.size v rows) (hb:Below w.heap.size w w') {u:Value} (hu:u=.int .i64 n):
  ReadRes r w (.returned (.tuple #[v,u])) w':=by
 subst h hu;exact⟨v,rfl,ho,hb⟩
theorem refCsvRead_any (s:ByteArray) (hs:s.size<=16777216) (w:World):
  Calls Tryz.prog 81 #[.string s] w (ReadRes (Csv.rowsOf s.data.toList) w):=by
 obtain⟨R,hR⟩:=aj (Csv.rowsOf s.data.toList);rw[hR];have hR0:=hR
 rw[Csv.rowsOf_read]at hR0;have HR0:=ah hR0;clear hR hR0
 go_enter Tryz.func81,Tryz.ntmps81;go_wp2
 go_loopg [4,5,6,7,8] s.size (fun g v4 v5 v6 st i wr=> ∃(k:Nat) (us:List Value) (q:Nat) (rows:List (List Csv.F)) (row:List Csv.F) (field:Csv.F),k+g=s.size/\i=.int .i64 k/\st=.int .i64 q/\q<=4/\
  Below w.heap.size w wr/\RSU us wr w.heap.size v4 v5 v6 rows row field/\Csv.read ⟨q,rows,row,field⟩ (s.data.toList.drop k)=R/\rows.length<=k/\row.length<=k/\field.length<=k)
 case atStart=>
  refine⟨0,[],0,[],[],[],by omega,rfl,rfl,by omega,(((Below.refl _ _).alloc (rM _) _).alloc (by simp) _).alloc (by simp;omega) _, ?_,HR0.out,by simp,by simp,by simp⟩
  refine⟨rfl,World.ownsRow.alloc (World.ownsRow.alloc (own_empty w _ _ 0 _ (rM _) rfl) _) _,fun k u r h=>by simp at h,fun i j u u' _ h=>by simp at h, ?_,fun i u h=>by simp at h, ?_⟩
  ·have:=World.ownsRow.alloc (own_empty (w.alloc (.cells #[] 45)) w.heap.size 9 0 #[] (by simp) rfl) (.cells #[] 5)
   simpa using this
  have:=own_empty ((w.alloc (.cells #[] 45)).alloc (.cells #[] 9)) w.heap.size 5 0 #[] (by simp;omega) rfl
  simpa[OwnB,Lib.byteCells] using this
 obtain⟨k,us,q,rows,row,field,hk,rfl,rfl,hq4,hbel,hrs,hrd,hl1,hl2,hl3⟩:=hrel
 have HR:=ah hrs;have HBEL:=ah hbel;have HK:=ah hk;have HRD:=ah hrd;have hB:=hbel.size
 have hul:us.length<=k:=by have:=hrs.len;omega
 obtain⟨A4,c4,rfl⟩:=own_form hrs.own4;obtain⟨A5,c5,rfl⟩:=own_form hrs.own5
 obtain⟨A6,c6,rfl⟩:=own_form hrs.own6;have hcv:=hrs.own6.conv;clear hrs hbel hk hrd
 cases gk with
 |zero=>
  have HS:Hid (Csv.fin ⟨q,rows,row,field⟩=R):=by
   refine ah ?_;have h1:=HRD.out
   rwa [uq (by rw[<-Lib.size_eq];have:=HK.out;omega)]at h1
  obtain rfl:k=s.size:=by have:=HK.out;omega
  by_cases h2:q=2
  ·subst h2
   clear hcv;go_wp2
   go_ret2
   exact readRes_of HS.symm HR.rowsOwn HBEL.out rfl
  have h2b:((q:Int) == 2)=false:=rX.2 (by omega)
  by_cases h4:q=4
  ·subst h4
   clear hcv;go_wp2
   go_ret2
   exact readRes_of HS.symm HR.rowsOwn HBEL.out rfl
  have h4b:((q:Int) == 4)=false:=rX.2 (by omega)
  by_cases hp:0<row.length\/0<field.length\/q≠0
  ·have HF:Hid (R=(rows++[row++[field]],0)):=by
    refine ah ?_;rw[<-HS.out,Csv.fin,rU h2,rU h4,rY hp]
   by_cases hp1:0<row.length
   ·have e1:decide (0<row.length)=true:=by simpa using hp1
    clear hp
    go_wp2_with (at_builtin;refine wpList_append_one rfl (.tmp 93) (.tmp 96) 45 9 (.string ⟨#[]⟩) 16 Tryz.underlying45 info_string rfl (by decide) rfl w.heap.size (.slice A5 row.length c5) row.length (row.map S) wr rfl HR.own5 (.string ⟨field.toArray⟩) rfl rfl (by omega) hB ?_)
    intro v1 w1 hown1 hgr1 hwh1 hbel1
    have HR1:=ah (HR.setRow (row':=row++[field]) hgr1 (by simpa[S] using hown1) hwh1)
    have HB1:=ah (HBEL.trans hbel1);have hw1:=HB1.size;obtain⟨A7,c7,e7⟩:=own_form hown1
    subst e7;clear hown1 hgr1 hwh1 hbel1 hcv
    go_wp2_with (at_builtin;refine wpList_append_one rfl (.tmp 92) (.tmp 98) 61 45 (.slice none 0 0) 24 Tryz.underlying61 info_strings rfl (by decide) rfl w.heap.size (.slice A4 us.length c4) us.length us w1 rfl HR1.own4 (.slice A7 (row.length+1) c7) rfl rfl (by omega) hw1 ?_)
    intro v2 w2 hown2 hgr2 _ hbel2
    have HO:=ah (OwnRows.snoc HR1.len hown2 (fun k u r hu hr=>own_grown_ty (HR1.inner k u r hu hr) hgr2 HR1.own4 (by decide)) (own_grown_ty HR1.own5 hgr2 HR1.own4 (by decide)) HR1.dist HR1.far)
    have HB2:=ah (HB1.trans hbel2);clear hown2 hgr2 hbel2;go_wp2
    go_ret2
    exact readRes_of HF.out HO.out HB2.out rfl
   have e1:decide (0<row.length)=false:=by simpa using hp1
   by_cases hp2:0<field.length
   ·have e2:decide (0<field.length)=true:=by simpa using hp2
    clear hp
    go_wp2_with (at_builtin;refine wpList_append_one rfl (.tmp 93) (.tmp 96) 45 9 (.string ⟨#[]⟩) 16 Tryz.underlying45 info_string rfl (by decide) rfl w.heap.size (.slice A5 row.length c5) row.length (row.map S) wr rfl HR.own5 (.string ⟨field.toArray⟩) rfl rfl (by omega) hB ?_)
    intro v1 w1 hown1 hgr1 hwh1 hbel1
    have HR1:=ah (HR.setRow (row':=row++[field]) hgr1 (by simpa[S] using hown1) hwh1)
    have HB1:=ah (HBEL.trans hbel1);have hw1:=HB1.size;obtain⟨A7,c7,e7⟩:=own_form hown1
    subst e7;clear hown1 hgr1 hwh1 hbel1 hcv
    go_wp2_with (at_builtin;refine wpList_append_one rfl (.tmp 92) (.tmp 98) 61 45 (.slice none 0 0) 24 Tryz.underlying61 info_strings rfl (by decide) rfl w.heap.size (.slice A4 us.length c4) us.length us w1 rfl HR1.own4 (.slice A7 (row.length+1) c7) rfl rfl (by omega) hw1 ?_)
    intro v2 w2 hown2 hgr2 _ hbel2
    have HO:=ah (OwnRows.snoc HR1.len hown2 (fun k u r hu hr=>own_grown_ty (HR1.inner k u r hu hr) hgr2 HR1.own4 (by decide)) (own_grown_ty HR1.own5 hgr2 HR1.own4 (by decide)) HR1.dist HR1.far)
    have HB2:=ah (HB1.trans hbel2);clear hown2 hgr2 hbel2;go_wp2
    go_ret2
    exact readRes_of HF.out HO.out HB2.out rfl
   have e2:decide (0<field.length)=false:=by simpa using hp2
   have h0b:((q:Int) !=0)=true:=tH.2 (by omega)
   clear hp
   go_wp2_with (at_builtin;refine wpList_append_one rfl (.tmp 93) (.tmp 96) 45 9 (.string ⟨#[]⟩) 16 Tryz.underlying45 info_string rfl (by decide) rfl w.heap.size (.slice A5 row.length c5) row.length (row.map S) wr rfl HR.own5 (.string ⟨field.toArray⟩) rfl rfl (by omega) hB ?_)
   intro v1 w1 hown1 hgr1 hwh1 hbel1
   have HR1:=ah (HR.setRow (row':=row++[field]) hgr1 (by simpa[S] using hown1) hwh1)
   have HB1:=ah (HBEL.trans hbel1);have hw1:=HB1.size;obtain⟨A7,c7,e7⟩:=own_form hown1
   subst e7;clear hown1 hgr1 hwh1 hbel1 hcv
   go_wp2_with (at_builtin;refine wpList_append_one rfl (.tmp 92) (.tmp 98) 61 45 (.slice none 0 0) 24 Tryz.underlying61 info_strings rfl (by decide) rfl w.heap.size (.slice A4 us.length c4) us.length us w1 rfl HR1.own4 (.slice A7 (row.length+1) c7) rfl rfl (by omega) hw1 ?_)
   intro v2 w2 hown2 hgr2 _ hbel2
   have HO:=ah (OwnRows.snoc HR1.len hown2 (fun k u r hu hr=>own_grown_ty (HR1.inner k u r hu hr) hgr2 HR1.own4 (by decide)) (own_grown_ty HR1.own5 hgr2 HR1.own4 (by decide)) HR1.dist HR1.far)
   have HB2:=ah (HB1.trans hbel2);clear hown2 hgr2 hbel2;go_wp2
   go_ret2
   exact readRes_of HF.out HO.out HB2.out rfl
  have e1:decide (0<row.length)=false:=rO (by omega)
  have e2:decide (0<field.length)=false:=rO (by omega)
  obtain rfl:q=0:=by omega
  have HF:Hid (R=(rows,0)):=by
   refine ah ?_;rw[<-HS.out,Csv.fin,rU h2,rU h4,rU hp]
  clear hcv hp;go_wp2
  go_ret2
  exact readRes_of HF.out HR.rowsOwn HBEL.out rfl
 |succ g=>
  have hks:k<s.size:=by have:=HK.out;omega
  have hks':(k:Int)<s.size:=by omega
  obtain⟨c,hc⟩:=aj (s[k]'hks)
  have HS:Hid ((match Csv.step ⟨q,rows,row,field⟩ c with|.inl s'=>Csv.read s' (s.data.toList.drop (k+1))|.inr e=>(rows,e))=R):=by
   refine ah ?_;rw[<-HRD.out];have h1:=Lib.data_getElem? s k hks;rw[hc]at h1
   obtain⟨h2,h3⟩:=rZ.1 h1;rw[tJ h2,h3];rfl
  clear HRD
  have hbyte: ∀d:UInt8,c≠d->((c.toNat:Int) ==(d.toNat:Int))=false:=fun d h=>rX.2 (fun e=>h (yE (by omega)))
  have hbyte': ∀d:UInt8,c≠d->((c.toNat:Int) !=(d.toNat:Int))=true:=fun d h=>tH.2 (fun e=>h (yE (by omega)))
  have HBY:=ah hbyte;have HBY':=ah hbyte';clear hbyte hbyte';by_cases h4:q=4
  ·subst h4
   by_cases h10:c=10
   ·subst h10
    have HST:Hid (Csv.read ⟨0,rows++[row],[],[]⟩ (s.data.toList.drop (k+1))=R):=by
     refine ah ?_
     have h0:Csv.step ⟨4,rows,row,field⟩ 10=.inl ⟨0,rows++[row],[],[]⟩:=by rfl
     have h1:=HS.out;rw[h0]at h1;exact h1
    clear HS;clear hcv
    go_wp2_with (at_builtin;refine wpList_append_one rfl (.tmp 27) (.tmp 29) 61 45 (.slice none 0 0) 24 Tryz.underlying61 info_strings rfl (by decide) rfl w.heap.size (.slice A4 us.length c4) us.length us wr rfl HR.own4 (.slice A5 row.length c5) rfl rfl (by omega) hB ?_)
    intro v1 w1 hown1 hgr1 _ hbel1;have HO1:=ah hown1;have HG1:=ah hgr1
    have HB1:=ah (HBEL.trans hbel1);have hw1:=HB1.size;clear hown1 hgr1 hbel1;go_wp2
    go_roundg g
    case measure=>omega
    refine⟨k+1,_,0,_,[],[],by have:=HK.out;omega,by go_num,rfl,by omega,(HB1.alloc hw1 _).alloc (by simp;omega) _,HR.push HO1.out HG1.out (only_alloc (only_alloc (only_refl _ _) _) _) ?_ ⟨_,rfl,rM _⟩ ?_,HST.out,by simp;omega,by simp,by simp⟩
    ·exact World.ownsRow.alloc (own_empty w1 w.heap.size 9 0 #[] hw1 rfl) _
    have:=own_empty (w1.alloc (.cells #[] 9)) w.heap.size 5 0 #[] (by simp;omega) rfl
    simpa[OwnB,Lib.byteCells] using this
   have hne:((c.toNat:Int) !=10)=true:=HBY'.out 10 h10
   have HST:Hid (Csv.step ⟨4,rows,row,field⟩ c=.inr 211):=ah (by unfold Csv.step;rw[rY rfl,rU h10])
   go_wp2
   go_ret2
   exact readRes_of (by have h1:=HS.out;rw[HST.out]at h1;exact h1.symm) HR.rowsOwn HBEL.out rfl
  have h4b:((q:Int) == 4)=false:=rX.2 (by omega)
  by_cases h2:q=2
  ·subst h2
   by_cases h34:c=34
   ·subst h34
    have HST:Hid (Csv.read ⟨3,rows,row,field⟩ (s.data.toList.drop (k+1))=R):=by
     refine ah ?_;have h0:Csv.step ⟨2,rows,row,field⟩ 34=.inl ⟨3,rows,row,field⟩:=by rfl
     have h1:=HS.out;rw[h0]at h1;exact h1
    clear HS;clear hcv;go_wp2
    go_roundg g
    case measure=>omega
    exact⟨k+1,us,3,rows,row,field,by have:=HK.out;omega,by go_num,rfl,by omega,HBEL.out,HR.out,HST.out,by omega,by omega,by omega⟩
   have hne:((c.toNat:Int) == 34)=false:=HBY.out 34 h34
   have HST:Hid (Csv.read ⟨2,rows,row,field++[c]⟩ (s.data.toList.drop (k+1))=R):=by
    refine ah ?_
    have h0:Csv.step ⟨2,rows,row,field⟩ c=.inl ⟨2,rows,row,field++[c]⟩:=by unfold Csv.step;rw[rU (by simp),rY rfl,rU h34]
    have h1:=HS.out;rw[h0]at h1;exact h1
   clear HS;clear hcv
   go_wp2_with (at_builtin;refine wpList_append_bytes rfl (.tmp 37) (.tmp 39) rfl w.heap.size (.slice A6 field.length c6) field wr rfl HR.own6 [c] [.int .u8 (c.toNat:Int)] (byteCells_one c).symm 1 rfl rfl (by omega) (by decide) hB ?_)
   intro v1 w1 hown1 hgr1 hbel1;have HR1:=ah (HR.setField hgr1 hown1)
   have HB1:=ah (HBEL.trans hbel1);clear hown1 hgr1 hbel1;go_wp2
   go_roundg g
   case measure=>omega
   exact⟨k+1,us,2,rows,row,_,by have:=HK.out;omega,by go_num,rfl,by omega,HB1.out,HR1.out,HST.out,by omega,by omega,by simp;omega⟩
  have h2b:((q:Int) == 2)=false:=rX.2 (by omega)
  by_cases h34:c=34
  ·subst h34
   by_cases h1:q=1
   ·subst h1
    have HST:Hid (Csv.step ⟨1,rows,row,field⟩ 34=.inr 210):=ah (by rfl)
    go_wp2
    go_ret2
    exact readRes_of (by have h1:=HS.out;rw[HST.out]at h1;exact h1.symm) HR.rowsOwn HBEL.out rfl
   have h1b:((q:Int) == 1)=false:=rX.2 (by omega)
   by_cases h3:q=3
   ·subst h3
    have HST:Hid (Csv.read ⟨2,rows,row,field++[34]⟩ (s.data.toList.drop (k+1))=R):=by
     refine ah ?_
     have h0:Csv.step ⟨3,rows,row,field⟩ 34=.inl ⟨2,rows,row,field++[34]⟩:=by rfl
     have h1:=HS.out;rw[h0]at h1;exact h1
    clear HS;clear hcv
    go_wp2_with (at_builtin;refine wpList_append_bytes rfl (.tmp 56) (.tmp 58) rfl w.heap.size (.slice A6 field.length c6) field wr rfl HR.own6 [34] [.int .u8 34] bc34 1 rfl rfl (by omega) (by decide) hB ?_)
    intro v1 w1 hown1 hgr1 hbel1;have HR1:=ah (HR.setField hgr1 hown1)
    have HB1:=ah (HBEL.trans hbel1);clear hown1 hgr1 hbel1;go_wp2
    go_roundg g
    case measure=>omega
    exact⟨k+1,us,2,rows,row,_,by have:=HK.out;omega,by go_num,rfl,by omega,HB1.out,HR1.out,HST.out,by omega,by omega,by simp;omega⟩
   have h3b:((q:Int) == 3)=false:=rX.2 (by omega)
   obtain rfl:q=0:=by omega
   have HST:Hid (Csv.read ⟨2,rows,row,field⟩ (s.data.toList.drop (k+1))=R):=by
    refine ah ?_;have h0:Csv.step ⟨0,rows,row,field⟩ 34=.inl ⟨2,rows,row,field⟩:=by rfl
    have h1:=HS.out;rw[h0]at h1;exact h1
   clear HS;clear hcv;go_wp2
   go_roundg g
   case measure=>omega
   exact⟨k+1,us,2,rows,row,field,by have:=HK.out;omega,by go_num,rfl,by omega,HBEL.out,HR.out,HST.out,by omega,by omega,by omega⟩
  have h34b:((c.toNat:Int) == 34)=false:=HBY.out 34 h34;by_cases h44:c=44
  ·subst h44
   have HST:Hid (Csv.read ⟨0,rows,row++[field],[]⟩ (s.data.toList.drop (k+1))=R):=by
    refine ah ?_
    have h0:Csv.step ⟨q,rows,row,field⟩ 44=.inl ⟨0,rows,row++[field],[]⟩:=by unfold Csv.step;rw[rU h4,rU h2,rU h34,rY (.inl rfl)];rfl
    have h1:=HS.out;rw[h0]at h1;exact h1
   clear HS
   go_wp2_with (at_builtin;refine wpList_append_one rfl (.tmp 63) (.tmp 66) 45 9 (.string ⟨#[]⟩) 16 Tryz.underlying45 info_string rfl (by decide) rfl w.heap.size (.slice A5 row.length c5) row.length (row.map S) wr rfl HR.own5 (.string ⟨field.toArray⟩) rfl rfl (by omega) hB ?_)
   intro v1 w1 hown1 hgr1 hwh1 hbel1
   have HR1:=ah (HR.setRow (row':=row++[field]) hgr1 (by simpa[S] using hown1) hwh1)
   have HB1:=ah (HBEL.trans hbel1);have hw1:=HB1.size;clear hown1 hgr1 hwh1 hbel1 hcv
   go_wp2
   go_roundg g
   case measure=>omega
   exact⟨k+1,us,0,rows,_,[],by have:=HK.out;omega,by go_num,rfl,by omega,HB1.alloc hw1 _,HR1.setField (only_alloc (only_refl _ _) _) (own_empty w1 w.heap.size 5 0 #[] hw1 rfl),HST.out,by omega,by simp;omega,by simp⟩
  have h44b:((c.toNat:Int) == 44)=false:=HBY.out 44 h44;by_cases h13:c=13
  ·subst h13
   have HST:Hid (Csv.read ⟨4,rows,row++[field],[]⟩ (s.data.toList.drop (k+1))=R):=by
    refine ah ?_
    have h0:Csv.step ⟨q,rows,row,field⟩ 13=.inl ⟨4,rows,row++[field],[]⟩:=by unfold Csv.step;rw[rU h4,rU h2,rU h34,rY (.inr rfl)];rfl
    have h1:=HS.out;rw[h0]at h1;exact h1
   clear HS
   go_wp2_with (at_builtin;refine wpList_append_one rfl (.tmp 63) (.tmp 66) 45 9 (.string ⟨#[]⟩) 16 Tryz.underlying45 info_string rfl (by decide) rfl w.heap.size (.slice A5 row.length c5) row.length (row.map S) wr rfl HR.own5 (.string ⟨field.toArray⟩) rfl rfl (by omega) hB ?_)
   intro v1 w1 hown1 hgr1 hwh1 hbel1
   have HR1:=ah (HR.setRow (row':=row++[field]) hgr1 (by simpa[S] using hown1) hwh1)
   have HB1:=ah (HBEL.trans hbel1);have hw1:=HB1.size;clear hown1 hgr1 hwh1 hbel1 hcv
   go_wp2
   go_roundg g
   case measure=>omega
   exact⟨k+1,us,4,rows,_,[],by have:=HK.out;omega,by go_num,rfl,by omega,HB1.alloc hw1 _,HR1.setField (only_alloc (only_refl _ _) _) (own_empty w1 w.heap.size 5 0 #[] hw1 rfl),HST.out,by omega,by simp;omega,by simp⟩
  have h13b:((c.toNat:Int) == 13)=false:=HBY.out 13 h13;by_cases h10:c=10
  ·subst h10
   have HST:Hid (Csv.step ⟨q,rows,row,field⟩ 10=.inr 211):=ah (by unfold Csv.step;rw[rU h4,rU h2,rU h34,rU (by simp),rY rfl])
   go_wp2
   go_ret2
   exact readRes_of (by have h1:=HS.out;rw[HST.out]at h1;exact h1.symm) HR.rowsOwn HBEL.out rfl
  have h10b:((c.toNat:Int) == 10)=false:=HBY.out 10 h10;by_cases h3:q=3
  ·subst h3
   have HST:Hid (Csv.step ⟨3,rows,row,field⟩ c=.inr 210):=ah (by unfold Csv.step;rw[rU (by simp),rU (by simp),rU h34,rU (by simp[h44,h13]),rU h10,rY rfl])
   go_wp2
   go_ret2
   exact readRes_of (by have h1:=HS.out;rw[HST.out]at h1;exact h1.symm) HR.rowsOwn HBEL.out rfl
  have h3b:((q:Int) == 3)=false:=rX.2 (by omega)
  have HST:Hid (Csv.read ⟨1,rows,row,field++[c]⟩ (s.data.toList.drop (k+1))=R):=by
   refine ah ?_
   have h0:Csv.step ⟨q,rows,row,field⟩ c=.inl ⟨1,rows,row,field++[c]⟩:=by unfold Csv.step;rw[rU h4,rU h2,rU h34,rU (by simp[h44,h13]),rU h10,rU h3]
   have h1:=HS.out;rw[h0]at h1;exact h1
  clear HS;clear hcv
  go_wp2_with (at_builtin;refine wpList_append_bytes rfl (.tmp 45) (.tmp 47) rfl w.heap.size (.slice A6 field.length c6) field wr rfl HR.own6 [c] [.int .u8 (c.toNat:Int)] (byteCells_one c).symm 1 rfl rfl (by omega) (by decide) hB ?_)
  intro v1 w1 hown1 hgr1 hbel1;have HR1:=ah (HR.setField hgr1 hown1)
  have HB1:=ah (HBEL.trans hbel1);clear hown1 hgr1 hbel1;go_wp2
  go_roundg g
  case measure=>omega
  exact⟨k+1,us,1,rows,row,_,by have:=HK.out;omega,by go_num,rfl,by omega,HB1.out,HR1.out,HST.out,by omega,by omega,by simp;omega⟩
theorem refCsvParse_any (s:ByteArray) (hs:s.size<=16777216) (w:World):
  Calls Tryz.prog 36 #[.string s] w (ReadRes (if(Csv.rowsOf s.data.toList).2=0 then((Csv.rowsOf s.data.toList).1,0) else([],(Csv.rowsOf s.data.toList).2)) w):=by
 have hrd:=fun wx=>refCsvRead_any s hs wx
 obtain⟨R,hR⟩:=aj (Csv.rowsOf s.data.toList);rw[hR]at hrd⊢;clear hR;obtain⟨rows,n⟩:=R
 by_cases hn:n=0
 ·subst hn
  go_enter Tryz.func36,Tryz.ntmps36
  go_wp2_with (go_at_call 81;refine(hrd _).mono ?_;rintro e w1 ⟨v,rfl,ho,hb⟩)
  go_ret2
  exact⟨v,rfl,ho,hb⟩
 have h0:((n:Int) !=0)=true:=tH.2 (by omega)
 rw[rU hn];go_enter Tryz.func36,Tryz.ntmps36
 go_wp2_with (go_at_call 81;refine(hrd _).mono ?_;rintro e w1 ⟨v,rfl,ho,hb⟩)
 go_ret2
 exact⟨_,rfl,⟨[],rfl,own_empty w1 _ _ 0 _ hb.size rfl,fun k u r h=>by simp at h,fun i j u u' _ h=>by simp at h⟩,hb.alloc hb.size _⟩
end Go.Proofs.YtanlehkalkafdaaGreatDoor
namespace Go.Proofs.YtanlehkalkafdaaGreatDoor
open Go.Joins Go.ChangeShapes Go.WideShapes Go.ChangeAt Go.RowKit Go.Deep
theorem mg (x:Nat) (h:x<=2047):IntKind.i64.wrap (x:Int)=(x:Int):=by
 unfold IntKind.wrap;simp[IntKind.signed,IntKind.bits];omega
theorem qF (x:Int): ∃q:Nat,q<=2047/\bits BinOp.and IntKind.i64 x 2047=(q:Int):=by
 refine⟨(BitVec.ofInt 64 x &&& BitVec.ofInt 64 2047).toNat, ?_, ?_⟩
 ·rw[BitVec.toNat_and]
  exact rV Cm (by decide)
 have h:(BitVec.ofInt 64 x &&& BitVec.ofInt 64 2047).toNat<=2047:=by
  rw[BitVec.toNat_and];exact rV Cm (by decide)
 exact mg _ h
structure fP (W:World) (B:Nat) (u:Value) (ns:List Int):Prop where
 ex: ∃A c,u=.slice A ns.length c/\Reads W B 1 A ns.length (ns.map I64)
 ok:ns.length<=1048576
theorem fP.below {W W':World} {B:Nat} {u:Value} {ns:List Int} (h:fP W B u ns) (hb:Below B W W'):fP W' B u ns:=by
 obtain⟨A,c,e,hr⟩:=h.ex;exact⟨⟨A,c,e,hr.below hb⟩,h.ok⟩
section
variable {H:Type} {enc:TypeId×Value->H} {W:World}
theorem oZ {r:Reach} {b0:Nat} {v:Value} {d:DataW H} {p:List MemPlace} (hv:Value.okWide Tryz.prog W r b0 42 v) (h:DataW.Trod enc Tryz.prog W 0 (fun _=>true) true 42 v d p) (hk:Rows.uptoBulk d<=1048576):
  ∃ns,fP W W.heap.size v ns:=by
 obtain⟨a0,l0,c0,rfl⟩:=okWide_slice Tryz.underlying42 hv;obtain⟨n,hf⟩:=h
 rcases open_ints Tryz.underlying42 Tryz.underlying3 (by kernel_rfl) hf with⟨hc,hx⟩|⟨a,len,cap,zs,hc,_,hl,_,hz,hx,hcell,hwf⟩
 ·have hc: [Value.slice a0 l0 c0]=[.slice none 0 0]:=hc
  simp only[wI,yJ]at hc;exact⟨[],⟨none,0,hc,Reads.none_⟩,by simp⟩
 have hc: [Value.slice a0 l0 c0]=[.slice (some a) len cap]:=hc;simp only[wI,yJ]at hc
 simp only[yO]at hz;have ht:(zs.take len).length=len:=by rw[tK];omega
 refine⟨zs.take len,⟨some a,cap,by rw[ht];exact hc, ?_⟩, ?_⟩
 ·rw[ht]
  refine reads_of (by simp;omega) fun i u hi=> ?_
  rw[tu]at hi;obtain⟨z,hz',rfl⟩:=uP.1 hi;obtain⟨hlt,he⟩:=rZ.1 hz'
  have hlt':i<zs.length:=by rw[ht]at hlt;omega
  rw[hcell i hlt',yu,ay hlt'];rw[yY]at he;simp[I64,he]
 have e:=uo Prod.fst hx;simp only at e;rw[e]at hk
 simp only[Rows.uptoBulk,bulk_lits]at hk;omega
end
end Go.Proofs.YtanlehkalkafdaaGreatDoor
namespace Go.Proofs.YtanlehkalkafdaaGreatDoor
open Go.RowKit
theorem qG (x:Int): ∃q:Nat,bits BinOp.and IntKind.i64 x 255=(q:Int):=by
 refine⟨(BitVec.ofInt 64 x &&& BitVec.ofInt 64 255).toNat, ?_⟩
 have h:(BitVec.ofInt 64 x &&& BitVec.ofInt 64 255).toNat<=2047:=by
  rw[BitVec.toNat_and];exact rV Cm (by decide)
 exact mg _ h
def swp (i j k:Nat):Nat:=if k=j then i else if k=i then j else k
theorem o9 {i j a b:Nat} (h:swp i j a=swp i j b):a=b:=by
 unfold swp at h
 split at h<;>split at h<;>(try split at h)<;>(try split at h)<;>omega
theorem jH {α:Type} {l:List α} {i j:Nat} {a b:α} (ha:l[i]?=some a) (hb:l[j]?=some b) (k:Nat):((l.set i b).set j a)[k]?=l[swp i j k]?:=by
 obtain⟨hi,-⟩:=rZ.1 ha;obtain⟨hj,-⟩:=rZ.1 hb;unfold swp;by_cases h1:k=j
 ·subst h1
  rw[rY rfl,Ad (by rw[wK];exact hj),ha]
 rw[rU h1,Bh (fun e=>h1 e.symm)]
 by_cases h2:k=i
 ·subst h2
  rw[rY rfl,Ad hi,hb]
 rw[rU h2,Bh (fun e=>h2 e.symm)]
theorem jI {α:Type} (l:List α) (i j:Nat):(Tb.swapK l i j).length=l.length:=(Tb.swapK_perm l i j).length_eq
theorem jJ {α:Type} {l:List α} {i j:Nat} {a b:α} (ha:l[i]?=some a) (hb:l[j]?=some b):Tb.swapK l i j=(l.set i b).set j a:=by
 unfold Tb.swapK;rw[ha,hb]
theorem pq {α β:Type} (f:α->β) (l:List α) (i j:Nat):(Tb.swapK l i j).map f=Tb.swapK (l.map f) i j:=by
 unfold Tb.swapK;rw[tu,tu];cases h1:l[i]? with
 |none=>rfl
 |some a=>
  cases h2:l[j]? with
  |none=>rfl
  |some b=>simp[BF]
theorem jK {α β:Type} (f:α->β) (pre:List β) (ks:List α) {m i j:Nat} (hm:pre.length=m) (hi:i<ks.length) (hj:j<ks.length):Tb.swapK (pre++ks.map f) (m+i) (m+j)=pre ++(Tb.swapK ks i j).map f:=by
 obtain⟨h1,h2,h3⟩:=Tb.swap_at f pre ks hm (ay hi) (ay hj);rw[jJ h1 h2];exact h3
section
variable {α:Type} (H:List (List UInt8)) (P:α->List (List UInt8)) (F:α->List UInt8->List UInt8)
def aF (ks:List (List UInt8)) (ns:List α):List (List (List UInt8)):=(H++ks) :: ns.map fun n=>P n++ks.map (F n)
variable {m:Nat} (hH:H.length=m) (hP: ∀n,(P n).length=m)
theorem pz (ks:List (List UInt8)) (ns:List α) {i:Nat} (hi:i<ns.length):Tb.swapK (aF H P F ks ns) 1 (1+i)=aF H P F ks (Tb.swapK ns 0 i):=
 jK (fun n=>P n++ks.map (F n)) [H++ks] ns (m:=1) (i:=0) (j:=i) rfl (by omega) hi
include hH hP
theorem mD (ks:List (List UInt8)) (ns:List α) {i:Nat} (hi:i<ks.length):(aF H P F ks ns).map (fun r=>Tb.swapK r m (m+i))=aF H P F (Tb.swapK ks 0 i) ns:=by
 unfold aF;rw[tV,vV]
 congr 1
 ·have:=jK id H ks hH (i:=0) (j:=i) (by omega) hi
  rwa [zo,zo]at this
 exact xA fun n _=>jK (F n) (P n) ks (hP n) (i:=0) (j:=i) (by omega) hi
theorem pF (ks:List (List UInt8)) (ns:List α): ∀r∈aF H P F ks ns,r.length=m+ks.length:=fun r hr=>by
 rcases uD.1 hr with rfl|hr
 ·rw[rP,hH]
 obtain⟨n,-,rfl⟩:=uU.1 hr;rw[rP,sU,hP]
end
def partly {β:Type} (f:β->β) (k:Nat) (l:List β):List β:=(l.take k).map f++l.drop k
theorem mF {β:Type} (f:β->β) (l:List β):partly f 0 l=l:=by simp[partly]
theorem mG {β:Type} (f:β->β) {k:Nat} {l:List β} (h:l.length<=k):partly f k l=l.map f:=by
 unfold partly;rw[sG h,uq h,tC]
theorem pG {β:Type} (f:β->β) (k:Nat) (l:List β):(partly f k l).length=l.length:=by
 unfold partly;rw[rP,sU,<-rP,uz]
theorem pI {β:Type} (f:β->β) {k:Nat} {l:List β} {r:β} (h:l[k]?=some r):(partly f k l)[k]?=some r/\(partly f k l).set k (f r)=partly f (k+1) l:=by
 obtain⟨hk,rfl⟩:=rZ.1 h;have ht:((l.take k).map f).length=k:=by rw[sU,tK];omega
 unfold partly;refine⟨?_, ?_⟩
 ·rw[uI (by omega),ht,zG,tJ hk]
  rfl
 rw[xB _ _ (by omega),ht,zG,tJ hk,su,uM,ay hk,uf]
 simp
theorem pJ {f:List (List UInt8)->List (List UInt8)} {W k:Nat} {l:List (List (List UInt8))} (hf: ∀r,(f r).length=r.length) (h: ∀r∈l,r.length=W): ∀r∈partly f k l,r.length=W:=fun r hr=>by
 rcases tZ.1 hr with h1|h1
 ·obtain⟨x,hx,rfl⟩:=uU.1 h1
  rw[hf,h x (xg hx)]
 exact h r (yF h1)
section
variable {w:World} {B n c k i j:Nat} {A:Option Addr} {v:Value} {rows:List (List (List UInt8))} {r:List (List UInt8)}
theorem OwnRows.form (h:OwnRows w B v rows): ∃A c,v=.slice A rows.length c:=by
 obtain⟨us,h1,h2,-,-⟩:=h;obtain⟨A,c,rfl⟩:=own_form h2;exact⟨A,c,by rw[h1]⟩
theorem OwnRows.row (h:OwnRows w B (.slice A n c) rows) (hr:rows[k]?=some r): ∃gb Ar cr,A=some ⟨gb,0,none⟩/\w.cell? ⟨gb,k,none⟩=some (.slice Ar r.length cr):=by
 obtain⟨us,h1,h2,h3,-⟩:=h;obtain⟨hk,-⟩:=rZ.1 hr
 have e:us.length=n:=(uo (fun v=>match v with|.slice _ n _=>n|_=>0) (own_form h2).choose_spec.choose_spec).symm
 rw[e]at h2;obtain⟨gb,rfl,-,hc,-,-⟩:=own_setL h2 (t:=k) (by omega)
 obtain⟨u,hu⟩: ∃u,us[k]?=some u:=⟨_,ay (by omega)⟩
 obtain⟨Ar,cr,rfl⟩:=own_form (h3 k u r hu hr);exact⟨gb,Ar,cr,rfl,hc.trans hu⟩
theorem OwnRows.swap (h:OwnRows w B (.slice A n c) rows) (hi:i<rows.length) (hj:j<rows.length): ∃gb Ai li ci Aj lj cj,A=some ⟨gb,0,none⟩/\B<=gb/\w.cell? ⟨gb,i,none⟩=some (.slice Ai li ci)/\w.cell? ⟨gb,j,none⟩=some (.slice Aj lj cj)/\w.frozen? ⟨gb,i,none⟩=false/\
  (∃u,(w.setCell ⟨gb,i,none⟩ (.slice Aj lj cj)).cell? ⟨gb,j,none⟩=some u)/\(w.setCell ⟨gb,i,none⟩ (.slice Aj lj cj)).frozen? ⟨gb,j,none⟩=false/\OwnRows ((w.setCell ⟨gb,i,none⟩ (.slice Aj lj cj)).setCell ⟨gb,j,none⟩ (.slice Ai li ci)) B (.slice A n c) (Tb.swapK rows i j):=by
 obtain⟨us,h1,h2,h3,h4⟩:=h
 have e:us.length=n:=(uo (fun v=>match v with|.slice _ n _=>n|_=>0) (own_form h2).choose_spec.choose_spec).symm
 rw[e]at h2;obtain⟨ui,jB⟩: ∃u,us[i]?=some u:=⟨_,ay (by omega)⟩
 obtain⟨uj,jC⟩: ∃u,us[j]?=some u:=⟨_,ay (by omega)⟩
 obtain⟨ri,kR⟩: ∃u,rows[i]?=some u:=⟨_,ay (by omega)⟩
 obtain⟨rj,kS⟩: ∃u,rows[j]?=some u:=⟨_,ay (by omega)⟩
 obtain⟨Ai,ci,rfl⟩:=own_form (h3 i ui ri jB kR)
 obtain⟨Aj,cj,rfl⟩:=own_form (h3 j uj rj jC kS)
 obtain⟨gb,rfl,hg,hc,hf,hs⟩:=own_setL h2 (t:=i) (by omega)
 obtain⟨gb',e',-,hc',-,-⟩:=own_setL h2 (t:=j) (by omega)
 cases e';have ho2:=hs (.slice Aj rj.length cj)
 obtain⟨gb',e',-,hc2,hf2,hs2⟩:=own_setL ho2 (t:=j) (by omega)
 cases e';have ho3:=hs2 (.slice Ai ri.length ci)
 refine⟨gb,Ai,_,ci,Aj,_,cj,rfl,hg,hc.trans jB,hc'.trans jC,hf,⟨_,by rw[hc2];exact ay (by rw[wK];omega)⟩,hf2,_, ?_,by rw[wK,wK,e];exact ho3,fun k u r hu hr=> ?_,fun x y u u' hxy hu hu'=> ?_⟩
 ·rw[wK,wK,jI,h1]
 ·rw[jH jB jC]at hu
  rw[jJ kR kS,jH kR kS]at hr
  exact own_grown_ty (own_grown_ty (h3 _ u r hu hr) (grownBy_set w ⟨gb,i,none⟩ _) h2 (by decide)) (grownBy_set _ ⟨gb,j,none⟩ _) ho2 (by decide)
 rw[jH jB jC]at hu hu'
 rcases zY (swp i j x) (swp i j y) with hl|hl|hl
 ·exact h4 _ _ u u' hl hu hu'
 ·exact absurd (o9 hl) (by omega)
 rcases h4 _ _ u' u hl hu' hu with h5|h5
 ·cases hb:u.ownBlock with
  |none=>exact .inl rfl
  |some g=>exact .inr fun e=>by rw[h5]at e;cases e
 exact .inr fun e=>h5 e.symm
theorem OwnRows.cols (h:OwnRows w B (.slice A n c) rows) (hr:rows[k]?=some r) (hi:i<r.length) (hj:j<r.length): ∃gb g cr zi zj,A=some ⟨gb,0,none⟩/\B<=g/\w.cell? ⟨gb,k,none⟩=some (.slice (some ⟨g,0,none⟩) r.length cr)/\w.cell? ⟨g,i,none⟩=some (.string zi)/\w.cell? ⟨g,j,none⟩=some (.string zj)/\w.frozen? ⟨g,i,none⟩=false/\
  (∃u,(w.setCell ⟨g,i,none⟩ (.string zj)).cell? ⟨g,j,none⟩=some u)/\(w.setCell ⟨g,i,none⟩ (.string zj)).frozen? ⟨g,j,none⟩=false/\OwnRows ((w.setCell ⟨g,i,none⟩ (.string zj)).setCell ⟨g,j,none⟩ (.string zi)) B (.slice A n c) (rows.set k (Tb.swapK r i j)):=by
 obtain⟨us,h1,h2,h3,h4⟩:=h
 have e:us.length=n:=(uo (fun v=>match v with|.slice _ n _=>n|_=>0) (own_form h2).choose_spec.choose_spec).symm
 obtain⟨hk,-⟩:=rZ.1 hr;obtain⟨u,hu⟩: ∃u,us[k]?=some u:=⟨_,ay (by omega)⟩
 have h2':=h2;rw[e]at h2';obtain⟨gb,rfl,hg,hc,-,-⟩:=own_setL h2' (t:=k) (by omega)
 have hou:=h3 k u r hu hr;obtain⟨Ar,cr,rfl⟩:=own_form hou
 obtain⟨xi,hxi⟩: ∃u,r[i]?=some u:=⟨_,ay hi⟩;obtain⟨xj,hxj⟩: ∃u,r[j]?=some u:=⟨_,ay hj⟩
 have yi:(r.map S)[i]?=some (S xi):=by rw[tu,hxi];rfl
 have yj:(r.map S)[j]?=some (S xj):=by rw[tu,hxj];rfl
 obtain⟨g,rfl,hgg,hci,hfi,hs⟩:=own_setL hou (t:=i) (by omega)
 obtain⟨g',e',-,hcj,-,-⟩:=own_setL hou (t:=j) (by omega)
 cases e';have ho2:=hs (S xj);obtain⟨g',e',-,hc2,hf2,hs2⟩:=own_setL ho2 (t:=j) (by omega)
 cases e';have ho3:=hs2 (S xi)
 refine⟨gb,g,cr,_,_,rfl,hgg,hc.trans hu,hci.trans yi,hcj.trans yj,hfi,⟨_,hc2.trans (ay (by rw[wK,sU];omega))⟩,hf2,us,by rw[wK,h1], ?_,fun x u' r' hu' hr'=> ?_,h4⟩
 ·exact own_grown_ty (own_grown_ty h2 (grownBy_set w ⟨g,i,none⟩ _) hou (by decide)) (grownBy_set _ ⟨g,j,none⟩ _) ho2 (by decide)
 by_cases hx:x=k
 ·subst hx
  rw[Ad hk]at hr';cases hr';rw[hu]at hu';cases hu';rw[jI,pq,jJ yi yj];exact ho3
 rw[Bh (fun e=>hx e.symm)]at hr'
 have nZ:u'.ownBlock=none\/u'.ownBlock≠some g:=by
  rcases Nat.lt_or_gt_of_ne hx with hl|hl
  ·exact h4 _ _ u' _ hl hu' hu
  rcases h4 _ _ _ u' hl hu hu' with h5|h5
  ·cases h5
  exact .inr fun e=>h5 e.symm
 exact((h3 x u' r' hu' hr').kept (grownBy_set w ⟨g,i,none⟩ _) nZ).kept (grownBy_set _ ⟨g,j,none⟩ _) nZ
end
end Go.Proofs.YtanlehkalkafdaaGreatDoor
