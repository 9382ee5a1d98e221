/- Contracts and plain laws,part 13. -/
import Derived.Test.YtanlehkalkafdaaGreatDoorUR12
import Derived.RangeFuncNested
import Derived.RangeFuncBound
import Derived.RangeFuncCalls
import Derived.RangeFuncLeaves
import Derived.Shelf.Abstract
import Derived.Shelf.RegionOpen
import Derived.OwnWalkIn
import Derived.TacticsInMore
import Derived.LoopNIn
import Derived.LoopIn
set_option maxHeartbeats 64000000
set_option maxRecDepth 1000000
set_option linter.all false
namespace Go.Proofs.YtanlehkalkafdaaGreatDoor
open Go.RowKit
def QRel (s:ByteArray) (b B:Nat) (w wx:World) (l0:List UInt8) (at':Nat) (acc:List UInt8):Prop:=
 w.grownBy wx (some b)/\Blk wx b 165 #[.string s,.int .i64 at']/\Bld B B acc wx/\Csv.quotedA [] l0=Csv.quotedA acc (s.data.toList.drop at')/\acc.length<=at'
theorem csvQuoted_any (b:Nat) (s:ByteArray) (at_:Nat) (w:World) (hb:Blk w b 165 #[.string s,.int .i64 at_]) (hat:at_<=s.size) (hs:s.size<=1073741823):
  Calls Tryz.prog 153 #[.pointer (some ⟨b,0,none⟩)] w (FieldRes s b w (Csv.quotedA [] (s.data.toList.drop at_))):=by
 have hblt:=hb.lt;have HB:=ah hb;clear hb;go_enter Tryz.func153,Tryz.ntmps153;go_wp2
 go_loopg [5] (s.size - at_) (fun g _ wx=> ∃(at':Nat) (acc:List UInt8),at'+g=s.size/\QRel s b w.heap.size w wx (s.data.toList.drop at_) at' acc)
 case atStart=>exact⟨at_,[],by omega,only_alloc (only_refl w _) _,(HB.out).alloc _,Bld.fresh w,rfl,by simp⟩
 obtain⟨at',acc,hig,hrel⟩:=hrel;obtain⟨hg,hblk,hbld,hq,hacc⟩:=hrel;have h0:=hblk.cell 0
 have h1:=hblk.cell 1;have f1:=hblk.frozen 1;simp at h0 h1
 have hi:((at':Int))<=s.size:=by omega
 obtain⟨R,hR⟩:=aj (Lib.indexByte (s.data.toList.drop at') 34)
 have hib: ∀wx:World,Calls Tryz.prog 201 #[.string (s.extract at' s.size),.int .u8 34] wx fun e w'=>e=.returned (.int .i64 R)/\w'=wx:=fun wx=>
  (Tryz.strings_IndexByte _ _ wx).mono fun e w' ⟨he,hw⟩=>⟨by rw[he,csv_drop];exact ret_eq (int_eq hR),hw⟩
 have hl:(s.data.toList.drop at').length=s.size - at':=by rw[uJ,<-Lib.size_eq]
 have HG:=ah hg;have HK:=ah hblk;have HQ:=ah hq;have HL:=ah hbld;have HI:=ah hig
 have hgle:gk<=s.size:=by omega
 clear hg hblk hq hbld hig
 rcases indexByte_take (s.data.toList.drop at') 34 with⟨k1,k2⟩|⟨n,r,k1,k2,k3,k4⟩
 ·rw[hR]at k1
  subst k1;have HN:=ah (Csv.quotedA_none _ k2 acc);clear k2 hR hl;go_wp2
  go_quiet ((go_at_call 201;first|exact Calls.quiet_of_same (hib _)|exact quiet_add_same (hib _)))
  go_wp2
  go_ret2
  have e:Csv.quotedA [] (s.data.toList.drop at_)=none:=HQ.trans HN.out;rw[e]
  exact⟨only_drewN HG.out _,rfl⟩
 rw[hR]at k1;subst k1;have hlt:at'+n<s.size:=by omega
 have hsn:(s.data.toList.drop at').take n=(s.extract at' (at'+n)).data.toList:=(csv_take s at' n (by omega)).symm
 have hdrop:s.data.toList.drop (at'+(n+1))=r:=by
  rw[<-y9];have:=uo (List.drop (n+1)) k2;rw[this,List.drop_append]
  have:((s.data.toList.drop at').take n).length=n:=by rw[tK,hl];omega
  rw[this,uq (by omega)]
  simp
 have HN:Hid (Csv.quotedA [] (s.data.toList.drop at_)=Csv.quotedA (acc ++(s.extract at' (at'+n)).data.toList) (34 :: r)):=by
  show _=_
  rw[HQ.out,k2,Csv.quotedA_chunk _ k3,hsn]
 have HD:=ah hdrop;have hn0:decide ((n:Int)<0)=false:=rO (by omega)
 have hin:((at':Int)+n)<s.size:=by omega
 clear hR hl k2 k3 hsn hdrop k4;go_wp2
 go_quiet ((go_at_call 201;first|exact Calls.quiet_of_same (hib _)|exact quiet_add_same (hib _)))
 go_wp2;have h0':(wr.drewN nq).cell? ⟨b,0,none⟩=some (.string s):=h0
 have h1':(wr.drewN nq).cell? ⟨b,1,none⟩=some (.int .i64 at'):=h1
 have HG':=ah (only_drewN HG.out nq)
 have HK':Hid (Blk (wr.drewN nq) b 165 #[.string s,.int .i64 at']):=HK.out
 have HL':Hid (Bld w.heap.size w.heap.size acc (wr.drewN nq)):=HL.out
 clear h0 h1 f1 HG HK HL hib
 generalize wr.drewN nq=W at*
 have hwr:IntKind.i64.wrap ((at':Int)+n)=at'+n:=IntWalk.i64_in _ (by omega)
 have hwn:((at':Int)+n).toNat=at'+n:=by omega
 have hwl:((at':Int)+n)<=s.size:=by omega
 have hw0:(0:Int)<=(at':Int)+n:=by omega
 have hw1:(at':Int)<=(at':Int)+n:=by omega
 go_still_tail 15,(by kernel_rfl)
 clear hwr hwn hwl hw0 hw1
 change wpList _ _ _ _ _ W.drew
 go_wp2_with fail
 refine(bld_str w.heap.size w.heap.size acc (s.extract at' (at'+n)) W.drew HL'.out (by simp;omega) (by omega) HG'.out.size).mono ?_
 rintro e w1 ⟨rfl,hbld1,hbel1,_⟩
 have hblk1:Blk w1 b 165 #[.string s,.int .i64 at']:=Blk.below (w:=W.drew) HK'.out hbel1 hblt
 have hg1:w.grownBy w1 (some b):=only_bel (only_drew HG'.out) hbel1 (rM _)
 have g0:=hblk1.cell 0;have g1:=hblk1.cell 1;have f1:=hblk1.frozen 1;simp at g0 g1
 have HG1:=ah hg1;have HK1:=ah hblk1;have HL1:=ah hbld1
 clear hg1 hblk1 hbld1 HG' HK' HL' h0' h1';go_wp2_with fail
 have HKW:Hid (Blk (w1.setCell ⟨b,1,none⟩ (.int .i64 ((at':Int)+((n:Int)+1)))) b 165 #[.string s,.int .i64 ((at':Int)+((n:Int)+1))]):=scan_put HK1.out _
 have HGW:Hid (w.grownBy (w1.setCell ⟨b,1,none⟩ (.int .i64 ((at':Int)+((n:Int)+1)))) (some b)):=only_setCell HG1.out (.inl rfl) _
 have HLW:Hid (Bld w.heap.size w.heap.size (acc ++(s.extract at' (at'+n)).data.toList) (w1.setCell ⟨b,1,none⟩ (.int .i64 ((at':Int)+((n:Int)+1))))):=Bld.kept_lt HL1.out (grownBy_set _ _ _) hblt
 have hsz:(s.extract at' (at'+n)).data.toList.length=n:=by rw[<-Lib.size_eq];simp;omega
 have hal:(acc ++(s.extract at' (at'+n)).data.toList).length<=at'+n:=by rw[rP,hsz];omega
 clear g0 g1 f1 HK1 HG1 HL1 hsz
 generalize acc ++(s.extract at' (at'+n)).data.toList=acc1 at HN HLW hal
 generalize w1.setCell ⟨b,1,none⟩ (.int .i64 ((at':Int)+((n:Int)+1)))=W2 at*
 by_cases hend:s.size<=at'+n+1
 ·refine(peek_no b s _ (at'+n+1) _ HKW.out (by omega) hend).mono ?_
  rintro e w3 ⟨rfl,n3,rfl⟩;go_wp2_with fail
  refine(bld_string w.heap.size w.heap.size _ _ (show Bld _ _ _ (W2.drewN n3) from HLW.out) HGW.size).mono ?_
  rintro e w4 ⟨rfl,hbld4,hbel4,_⟩
  have hr:r=[]:=by
   have:=HD.out;rw[uq (by have:=Lib.size_eq s;omega)]at this
   exact this.symm
  go_wp2
  go_ret2
  rw[HN.out,hr,Csv.quotedA_cons,rY rfl]
  exact fieldRes_some (at'+n+1) (only_bel (only_drewN HGW.out n3) hbel4 (rM _)) rfl (by omega) (by rw[wV,HD.out,hr]) (int_eq (by omega)) (Blk.below (w:=W2.drewN n3) HKW.out hbel4 hblt)
 have hend':at'+n+1<s.size:=by omega
 obtain⟨c,hc⟩:=aj (s[at'+n+1]'hend')
 obtain⟨r',hr⟩: ∃r',r=c :: r':=by
  refine⟨s.data.toList.drop (at'+(n+1)+1), ?_⟩
  rw[<-HD.out,tJ (by have:=Lib.size_eq s;omega)]
  congr 1
 have HR:=ah hr;have HC:=ah hc;clear hr hc
 refine(peek_yes b s _ (at'+n+1) _ HKW.out (by omega) hend' (by omega)).mono ?_
 rintro e w3 ⟨rfl,n3,rfl⟩;rw[HC.out];by_cases h34:c=34
 ·subst h34
  go_wp2_with fail
  refine(bld_byte w.heap.size w.heap.size _ _ _ (show Bld _ _ _ (W2.drewN n3) from HLW.out) (by omega) (by omega) (by omega) HGW.size).mono ?_
  rintro e w4 ⟨rfl,hbld4,hbel4,_⟩
  have hblk4:Blk w4 b 165 #[.string s,.int .i64 ((at':Int)+((n:Int)+1))]:=Blk.below (w:=W2.drewN n3) HKW.out hbel4 hblt
  have g0:=hblk4.cell 0;have g1:=hblk4.cell 1;have f1:=hblk4.frozen 1;simp at g0 g1
  have HK4:=ah hblk4;have HL4:=ah hbld4
  have HG4:=ah (only_bel (only_drewN HGW.out n3) hbel4 (rM _));clear hblk4 hbld4
  have hq2:Csv.quotedA [] (s.data.toList.drop at_)=Csv.quotedA (acc1++[34]) (s.data.toList.drop (at'+n+2)):=by
   rw[HN.out,HR.out,Csv.quotedA_cons,rY rfl]
   dsimp only
   rw[rY rfl]
   congr 1
   have:=uo (List.drop 1) HD.out;rw[y9,HR.out]at this;exact this.symm
  have HQ2:=ah hq2;clear hq2;go_wp2
  go_roundg (s.size -(at'+n+2))
  case measure=>have:=HI.out;omega
  exact⟨at'+n+2,acc1++[34],by omega,only_setCell HG4.out (.inl rfl) _,(by have:=scan_put HK4.out (.int .i64 ((at':Int)+((n:Int)+1)+1));rw[show((at'+n+2:Nat):Int)=(at':Int)+((n:Int)+1)+1 by omega];exact this),Bld.kept_lt HL4.out (grownBy_set _ _ _) hblt,HQ2.out,by simp;omega⟩
 have hcb:((c.toNat:Int) == 34)=false:=by
  refine rX.2 fun e=>h34 (vS.1 ?_)
  simp;omega
 by_cases h3:c=44\/c=13\/c=10
 ·have hcl:HR.out=HR.out:=rfl
  clear hcl hcb
  rcases h3 with rfl|rfl|rfl
  all_goals
   go_wp2_with fail
   refine(bld_string w.heap.size w.heap.size _ _ (show Bld _ _ _ (W2.drewN n3) from HLW.out) HGW.size).mono ?_
   rintro e w4 ⟨rfl,hbld4,hbel4,_⟩;go_wp2
   go_ret2
   rw[HN.out,HR.out,Csv.quotedA_cons,rY rfl]
   exact fieldRes_some (at'+n+1) (only_bel (only_drewN HGW.out n3) hbel4 (rM _)) rfl (by omega) (by rw[wV,HD.out,HR.out]) (int_eq (by omega)) (Blk.below (w:=W2.drewN n3) HKW.out hbel4 hblt)
 simp only[yS]at h3;obtain⟨h44,h13,h10⟩:=h3
 have e44:((c.toNat:Int) !=44)=true:=by
  rw[tH];exact fun e=>h44 (vS.1 (by simp;omega))
 have e13:((c.toNat:Int) !=13)=true:=by
  rw[tH];exact fun e=>h13 (vS.1 (by simp;omega))
 have e10:((c.toNat:Int) !=10)=true:=by
  rw[tH];exact fun e=>h10 (vS.1 (by simp;omega))
 have HF:Hid (Csv.quotedA acc1 (34 :: c :: r')=none):=by
  show _=_
  rw[Csv.quotedA_cons,rY rfl]
  dsimp only
  rw[rU h34,rU (by simp[h44,h13,h10])]
 clear h44 h13 h10 h34;go_wp2
 go_ret2
 rw[HN.out,HR.out,HF.out];exact⟨only_drewN HGW.out _,rfl⟩
def S (l:List UInt8):Value:=.string ⟨l.toArray⟩
theorem info_string:(Tryz.prog.info? 9).map (fun i=>(i.zero,i.size,i.bytes))=some (some (.string ⟨#[]⟩),1,16):=by kernel_rfl
def RowRes (s:ByteArray) (b:Nat) (w:World) (res:Nat×List Csv.F×Csv.F) (e:Ending) (w':World):Prop:=
 w.grownBy w' (some b)/\
 match res with
 |(0,fs,r)=> ∃(v:Value) (at':Nat),e=.returned (.tuple #[v,.int .i64 0])/\w'.ownsRow w.heap.size 9 1 v fs.length (fs.map S)/\at'<=s.size/\s.data.toList.drop at'=r/\Blk w' b 165 #[.string s,.int .i64 at']
 |(k+1,_,_)=>e=.returned (.tuple #[.slice none 0 0,.int .i64 ((k:Int)+1)])
theorem row_any (b:Nat) (s:ByteArray) (at_:Nat) (w:World) (hb:Blk w b 165 #[.string s,.int .i64 at_]) (hat:at_<=s.size) (hs:s.size<=16777216):
  Calls Tryz.prog 113 #[.pointer (some ⟨b,0,none⟩)] w (RowRes s b w (Csv.rowA (s.size - at_+1) [] (s.data.toList.drop at_))):=by
 obtain⟨i0,hi,hz0,hz1,hz2⟩:=info_parts info_string;have hblt:=hb.lt;have HB:=ah hb
 clear hb;go_enter Tryz.func113,Tryz.ntmps113;go_wp2
 go_loopg [2,3] (s.size - at_) (fun g v e wx=> ∃(at':Nat) (acc:List Csv.F),at'<=s.size/\s.size - at'<=g/\acc.length<=at'/\e=.int .i64 0/\w.grownBy wx (some b)/\Blk wx b 165 #[.string s,.int .i64 at']/\
  wx.ownsRow w.heap.size 9 1 v acc.length (acc.map S)/\Csv.rowA (s.size - at_+1) [] (s.data.toList.drop at_)=Csv.rowA (g+1) acc (s.data.toList.drop at'))
 case atStart=>exact⟨at_,[],by omega,by omega,by simp,rfl,only_refl w _,HB.out,World.ownsRow_nil _ _ _ _,rfl⟩
 obtain⟨at',acc,hle,hgk,hacc,rfl,hg,hblk,hown,hrow⟩:=hrel;have h0:=hblk.cell 0
 have h1:=hblk.cell 1;have f1:=hblk.frozen 1;simp at h0 h1;have HG:=ah hg;have HK:=ah hblk
 have HO:=ah hown;have HR:=ah hrow;clear hg hblk hown hrow;have hsz:=Lib.size_eq s
 obtain⟨res,hres⟩:=aj (Csv.fieldP (s.data.toList.drop at'));have HF:=ah hres;clear hres
 have hquote:(∃h:at'<s.size,s[at']'h=34)\/(∃h:at'<s.size,s[at']'h≠34)\/s.size<=at':=by
  by_cases h:at'<s.size
  ·by_cases h':s[at']'h=34
   ·exact .inl ⟨h,h'⟩
   exact .inr (.inl ⟨h,h'⟩)
  exact .inr (.inr (by omega))
 have field: ∀(W w2:World) (e:Ending),w.grownBy W (some b)->W.ownsRow w.heap.size 9 1 u2 acc.length (acc.map S)->FieldRes s b W res e w2->
   Hid (w.grownBy w2 (some b))/\Hid (w2.ownsRow w.heap.size 9 1 u2 acc.length (acc.map S))/\FieldRes s b W res e w2:=fun W w2 e h1 h2 h3=>
  ⟨only_trans h1 h3.1,h2.kept h3.1 (.inr (fun e=>by have:=(h2.lt b e).1;omega)),h3⟩
 have FI:=ah field;clear field
 rcases hquote with⟨hlt,h34⟩|⟨hlt,h34⟩|hend
 focus
  have hdr:s.data.toList.drop at'=34 :: s.data.toList.drop (at'+1):=by
   rw[tJ (by omega)]
   congr 1
  have HQ:=ah (csvQuoted_any b s (at'+1))
  have HD:Hid (Csv.quotedA [] (s.data.toList.drop (at'+1))=res):=by rw[<-HF.out,hdr];exact rfl
  clear hdr hsz;go_wp2_with fail
  refine(peek_yes b s _ at' _ HK.out rfl hlt (by omega)).mono ?_
  rintro e w1 ⟨rfl,n1,rfl⟩;rw[h34];go_wp2_with fail
  refine(HQ.out _ (by rw[show((at'+1:Nat):Int)=(at':Int)+1 by omega];exact scan_put (w:=wr.drewN _) HK.out _) (by omega) (by omega)).mono ?_
  rintro e w2 hf;rw[HD.out]at hf
  have hf':=FI.out _ _ _ (only_setCell (only_drewN HG.out n1) (p:=⟨b,1,none⟩) (.inl rfl) _) (World.ownsRow.kept (w:=wr.drewN n1) HO.out (grownBy_set _ _ _) (.inr (fun e=>by have:=(World.ownsRow.lt HO.out b e).1;omega))) hf
  clear HQ HD h34 hlt
 rotate_left
 focus
  have hdr:s.data.toList.drop at'=s[at']'hlt :: s.data.toList.drop (at'+1):=by
   rw[tJ (by omega)]
   congr 1
  have hcb:(((s[at']'hlt).toNat:Int) == 34)=false:=rX.2 fun e=>h34 (vS.1 (by simp;omega))
  have HD:Hid (Csv.plainP (s.data.toList.drop at')=res):=by
   rw[<-HF.out,Csv.fieldP_other]
   ·exact rfl
   intro r e;rw[hdr]at e;exact h34 (List.cons.inj e).1
  clear hdr hsz h34;go_wp2_with fail
  refine(peek_yes b s _ at' _ HK.out rfl hlt (by omega)).mono ?_
  rintro e w1 ⟨rfl,n1,rfl⟩;go_wp2_with fail
  refine(plain_any b s at' (wr.drewN n1) HK.out hle (by omega)).mono ?_
  rintro e w2 hf;rw[HD.out]at hf;have hf':=FI.out _ _ _ (only_drewN HG.out n1) HO.out hf
  clear HD hcb
 rotate_left
 focus
  have HD:Hid (Csv.plainP (s.data.toList.drop at')=res):=by
   rw[<-HF.out,uq (by omega)]
   exact rfl
  clear hsz;go_wp2_with fail;refine(peek_no b s _ at' _ HK.out rfl hend).mono ?_
  rintro e w1 ⟨rfl,n1,rfl⟩;go_wp2_with fail
  refine(plain_any b s at' (wr.drewN n1) HK.out hle (by omega)).mono ?_
  rintro e w2 hf;rw[HD.out]at hf;have hf':=FI.out _ _ _ (only_drewN HG.out n1) HO.out hf
  clear HD hend
 rotate_left
 all_goals
  clear hf HG HK HO FI h0 h1 f1;obtain⟨HG2,HO2,_,hf2⟩:=hf';cases res with
  |none=>
   obtain rfl:=hf2;go_wp2
   go_ret2
   rw[HR.out,Csv.rowA_none HF.out];exact⟨HG2.out,rfl⟩
  |some x=>
   obtain⟨f,r⟩:=x;obtain⟨rfl,at2,hat2,hdr2,hblk2⟩:=hf2;have HD2:=ah hdr2
   have HK2:=ah hblk2;clear hdr2 hblk2
   go_wp2_with (at_builtin;refine wpList_append_own _ rfl _ _ 45 rfl w.heap.size 9 i0 (.string ⟨#[]⟩) 1 16 Tryz.underlying45 hi hz0 hz1 hz2 rfl (by decide) _ _ _ rfl (World.ownsRow.alloc HO2.out _) ⟨w2.heap.size,0,none⟩ 1 1 [.string ⟨f.toArray⟩] rfl rfl ?c1 ?c2 ?c3 ?c4 ?c5 ?_)
   case c1=>exact cell_one_new _ _ _
   case c2=>simp[Value.oneCell']
   case c3=>unfold maxLen;omega
   case c4=>omega
   case c5=>have:=HG2.size;simp;omega
   intro v' w3 hown3 hgrow _
   have hnew: ∀i,u2.ownBlock=some i->w.heap.size<=i:=fun i e=>(World.ownsRow.lt HO2.out i e).1
   have HG3:=ah (only_new (only_alloc HG2.out (.cells #[.string ⟨f.toArray⟩] 9)) hgrow hnew)
   have hblk3:Blk w3 b 165 #[.string s,.int .i64 at2]:=Blk.grown (Blk.alloc HK2.out _) hgrow (fun e=>by have:=hnew b e.symm;omega)
   have HO3:Hid (w3.ownsRow w.heap.size 9 1 v' (acc++[f]).length ((acc++[f]).map S)):=by
    have:(acc++[f]).map S=acc.map S++[.string ⟨f.toArray⟩]:=by simp[S]
    rw[this,rP];exact hown3
   have g0:=hblk3.cell 0;have g1:=hblk3.cell 1;have f1:=hblk3.frozen 1;simp at g0 g1
   have HK3:=ah hblk3;have hsz:=Lib.size_eq s
   have HRA:Hid (Csv.rowA (s.size - at_+1) [] (s.data.toList.drop at_)=Csv.rowB gk acc f r):=by
    show _=_
    rw[HR.out,Csv.rowA_some HF.out]
   have hlen:r.length<=(s.data.toList.drop at').length:=(Csv.fieldP_rest HF.out).1
   have hlr:r.length=s.size - at2:=by rw[<-HD2.out,uJ];omega
   have hmono:s.size - at2<=s.size - at':=by rw[uJ]at hlen;omega
   clear hown3 hblk3 hgrow hnew HG2 HO2 HK2 HR HF hlen;by_cases hend:s.size<=at2
   ·have hr0:r=[]:=sH (by omega)
    subst hr0;clear hsz hlr;go_wp2_with fail
    refine(peek_no b s _ at2 _ HK3.out rfl hend).mono ?_;rintro e w4 ⟨rfl,n4,rfl⟩;go_wp2
    go_ret2
    rw[HRA.out];exact⟨only_drewN HG3.out _,v',at2,rfl,HO3.out,hat2,HD2.out,HK3.out⟩
   have hlt2:at2<s.size:=by omega
   obtain⟨c,hc⟩:=aj (s[at2]'hlt2)
   have hr1:r=c :: s.data.toList.drop (at2+1):=by
    rw[<-HD2.out,tJ (by omega)]
    congr 1
   obtain⟨r',hr'⟩:=aj (s.data.toList.drop (at2+1));rw[hr']at hr1;subst hr1
   have HC:=ah hc;have HR':=ah hr';clear hsz hlr hc hr';go_wp2_with fail
   refine(peek_yes b s _ at2 _ HK3.out rfl hlt2 (by omega)).mono ?_
   rintro e w4 ⟨rfl,n4,rfl⟩;rw[HC.out];by_cases h44:c=44
   ·subst h44
    go_wp2;cases gk with
    |zero=>omega
    |succ g=>
     go_roundg g
     case measure=>omega
     refine⟨at2+1,acc++[f],by omega,by omega,by simp;omega,rfl,only_setCell (only_drewN HG3.out n4) (.inl rfl) _, ?_,World.ownsRow.kept (w:=w3.drewN n4) HO3.out (grownBy_set _ _ _) (.inr (fun e=>by have:=(World.ownsRow.lt HO3.out b e).1;omega)), ?_⟩
     ·rw[show((at2+1:Nat):Int)=(at2:Int)+1 by omega]
      exact scan_put (w:=w3.drewN n4) HK3.out _
     rw[HRA.out,HR'.out];rw[Csv.rowB_cons,rY rfl]
   have hcb:((c.toNat:Int) !=44)=true:=by
    rw[tH];exact fun e=>h44 (vS.1 (by simp;omega))
   obtain⟨P,hP⟩:=aj (Lib.hasPrefix (c :: r') [13,10])
   have hhp: ∀wx:World,Calls Tryz.prog 155 #[.string (s.extract at2 s.size),.string ⟨#[13,10]⟩] wx fun e w'=>e=.returned (.bool P)/\w'=wx:=fun wx=>
    (Tryz.strings_HasPrefix _ _ wx).mono fun e w' ⟨he,hw⟩=>⟨by rw[he,csv_drop,HD2.out];exact ret_eq (uo Value.bool hP),hw⟩
   have hP':P=decide (c=13/\r'.head?=some 10):=by
    rw[<-hP];unfold Lib.hasPrefix;cases r' with
    |nil=>simp[List.isPrefixOf]
    |cons d r'=>
     by_cases h13:c=13
     ·subst h13
      by_cases h10:d=10
      ·subst h10;simp[List.isPrefixOf]
      simp[List.isPrefixOf,h10];exact fun e=>h10 e.symm
     simp[List.isPrefixOf,h13];intro e;exact absurd e.symm h13
   clear hP;have hi2:((at2:Int))<=s.size:=by omega
   cases P with
   |true=>
    have hcr:=sQ hP'.symm;clear hP';go_wp2
    go_quiet ((go_at_call 155;first|exact Calls.quiet_of_same (hhp _)|exact quiet_add_same (hhp _)))
    go_wp2
    go_ret2
    have hrb:Csv.rowB gk acc f (c :: r')=(0,acc++[f],r'.tail):=by
     rw[Csv.rowB_cons,rU h44,rY hcr]
    have hd2:s.data.toList.drop (at2+2)=r'.tail:=by
     rw[<-HR'.out,List.tail_drop]
    have hle2:at2+2<=s.size:=by
     have h5:=Lib.size_eq s;have h6:=uo List.length HR'.out;rw[uJ]at h6
     have h7:0<r'.length:=by
      cases r' with
      |nil=>simp at hcr
      |cons a r'=>simp
     omega
    rw[HRA.out,hrb]
    refine⟨only_setCell (only_drewN HG3.out _) (.inl rfl) _,v',at2+2,rfl,World.ownsRow.kept (w:=w3.drewN _) HO3.out (grownBy_set _ _ _) (.inr (fun e=>by have:=(World.ownsRow.lt HO3.out b e).1;omega)),hle2,hd2, ?_⟩
    rw[show((at2+2:Nat):Int)=(at2:Int)+2 by omega]
    exact scan_put (w:=w3.drewN _) HK3.out _
   |false=>
    have hcr:=sO hP'.symm;clear hP';go_wp2
    go_quiet ((go_at_call 155;first|exact Calls.quiet_of_same (hhp _)|exact quiet_add_same (hhp _)))
    go_wp2
    go_ret2
    have hrb:Csv.rowB gk acc f (c :: r')=(211,[],[]):=by
     rw[Csv.rowB_cons,rU h44,rU hcr]
    rw[HRA.out,hrb];exact⟨only_drewN (only_drewN HG3.out _) _,rfl⟩
structure Same1 (T:TypeId) (n₁:Nat) (A B:World):Prop where
 os:B.os=A.os
 tape:B.tape=A.tape
 output:B.output=A.output
 size:A.heap.size<=B.heap.size
 low: ∀k,k<n₁->k<A.heap.size->B.heap[k]?=A.heap[k]?
 block: ∀(k:Nat) (o:Obj),A.heap[k]?=some o->(∀r,o≠ .loop r)->(∀c fz,o≠ .cells c T fz)->B.heap[k]?=some o
section
variable {T n₁:Nat} {A B C:World}
theorem Same1.refl (T n₁:Nat) (A:World):Same1 T n₁ A A:=⟨rfl,rfl,rfl,rM _,fun _ _ _=>rfl,fun _ _ h _ _=>h⟩
theorem Same1.trans (h:Same1 T n₁ A B) (k:Same1 T n₁ B C):Same1 T n₁ A C:=
 ⟨k.os.trans h.os,k.tape.trans h.tape,k.output.trans h.output,rV h.size k.size,fun i hi hA=>(k.low i hi (sZ hA h.size)).trans (h.low i hi hA),fun i o ho h1 h2=>k.block i o (h.block i o ho h1 h2) h1 h2⟩
theorem Same1.of_below (h:Below A.heap.size A B):Same1 T n₁ A B:=
 ⟨h.os,h.tape,h.output,h.size,fun k _ hk=>h.block k hk,fun k o ho _ _=>(h.block k (sW.1 ho).1).trans ho⟩
theorem Same1.alloc (h:Same1 T n₁ A B) (o:Obj):Same1 T n₁ A (B.alloc o):=h.trans (.of_below ((Below.refl _ B).alloc (rM _) o))
theorem Same1.drewN (h:Same1 T n₁ A B) (n:Nat):Same1 T n₁ A (B.drewN n):=⟨h.os,h.tape,h.output,h.size,h.low,h.block⟩
theorem Same1.of_grown {g:Nat} {c:Array Value} {fz:Nat×Nat} (h:A.grownBy B (some g)) (hg:A.heap[g]?=some (.cells c T fz)) (hn:n₁<=g):Same1 T n₁ A B:=
 ⟨h.os,h.tape,h.output,h.size,fun k hk hA=>h.block k hA (by simp;omega),fun k o ho _ h2=>(h.block k (sW.1 ho).1 (fun e=>by cases e;rw[hg]at ho;exact h2 c fz (tN ho).symm)).trans ho⟩
theorem Same1.putObj {l:Nat} {r:Loop} (r':Loop) (h:A.heap[l]?=some (.loop r)) (hn:n₁<=l):Same1 T n₁ A (A.putObj l (.loop r')):=
 ⟨rfl,rfl,rfl,by simp[World.putObj],fun k hk _=>World.putObj_heap_other (by omega),fun k o ho h1 _=>by
  rw[World.putObj_heap_other (fun e=>by subst e;rw[h]at ho;exact h1 r (tN ho).symm)]
  exact ho⟩
theorem Same1.cell (h:Same1 T n₁ A B) {b:Nat} {c:Array Value} {t:TypeId} {fz:Nat×Nat} (hb:A.heap[b]?=some (.cells c t fz)) (ht:t≠T):B.heap[b]?=some (.cells c t fz):=
 h.block b _ hb (fun r e=>by cases e) (fun c' fz' e=>by cases e;exact ht rfl)
theorem Same1.below {m:Nat} (h:Same1 T n₁ A B) (hm:m<=n₁) (hA:m<=A.heap.size):Below m A B:=⟨h.os,h.tape,h.output,h.size,fun k hk=>h.low k (by omega) (by omega)⟩
theorem Same1.own (h:Same1 T n₁ A B) {base size n:Nat} {e:TypeId} {v:Value} {xs:List Value} (ho:A.ownsRow base e size v n xs) (ht:e≠T):B.ownsRow base e size v n xs:=by
 refine⟨ho.1, ?_⟩
 rcases ho.2 with hn|⟨g,cap,cur,rfl,hb,hg,rest⟩
 ·exact .inl hn
 exact .inr ⟨g,cap,cur,rfl,hb,h.cell hg ht,rest⟩
theorem Same1.blk (h:Same1 T n₁ A B) {b:Nat} {c:Array Value} {t:TypeId} (hb:Blk A b t c) (ht:t≠T):Blk B b t c:=h.cell hb ht
end
structure KeepT (T:TypeId) (A B:World):Prop where
 size:A.heap.size<=B.heap.size
 same: ∀(k:Nat) (c:Array Value) (fz:Nat×Nat),A.heap[k]?=some (Obj.cells c T fz)->B.heap[k]?=some (Obj.cells c T fz)
theorem KeepT.trans {T:TypeId} {A B C:World} (h:KeepT T A B) (k:KeepT T B C):KeepT T A C:=⟨rV h.size k.size,fun i c fz hi=>k.same i c fz (h.same i c fz hi)⟩
theorem KeepT.of_grown {T:TypeId} {A B:World} {row:Option Nat} (h:A.grownBy B row) (hr: ∀g c fz,row=some g->A.heap[g]?≠some (.cells c T fz)):KeepT T A B:=
 ⟨h.size,fun k c fz hk=>(h.block k (sW.1 hk).1 (fun e=>hr k c fz e.symm hk)).trans hk⟩
theorem KeepT.blk {T:TypeId} {A B:World} (h:KeepT T A B) {b:Nat} {c:Array Value} (hb:Blk A b T c):Blk B b T c:=h.same b c _ hb
def IterOK {α:Type} (P:Program) (T n₁ gf:Nat) (lb:Array Value) (encs:α->Array Value) (Pre:α->World->World->Prop) (Step:List α->α->Prop) (End:List α->Prop) (Aux:World->Prop) (W1:World):Prop:=
 ∀(l:Nat) (J:List α->World->Prop) (Fin:World->Prop),(∀pre W,J pre W->Aux W)->
  (∀pre A B,J pre A->Same1 T W1.heap.size A B->J pre B)->
  (∀pre x W0 W,J pre W0->Same1 T W1.heap.size W0 W->Pre x W0 W->Step pre x->YieldAt Fence.wide 7 P l (encs x) W fun e W'=>
   (e=.returned (.bool true)/\J (pre++[x]) W'/\KeepT T W W')\/(e=.returned (.bool false)/\Fin W'))->
  (∀pre W,J pre W->End pre->Fin W)->
  J [] W1->
  CallsIn Fence.wide 8 P gf (#[.func (.yield l) #[] #[]]++lb) W1 fun e W'=>(∃v,e=.returned v)/\Fin W'
def iterPost {α:Type} (B:Nat) (T:TypeId) (I:List α->World->Prop) (Ix:Code->World->Prop) (xs:List α) (W:World):Exit->Act->World->Prop
 |.normal,_,W'=>KeepsFrom B W W'/\KeepT T W W'/\I xs W'
 |.ret,_,W'=>KeepsFrom B W W'/\Ix .ret W'
 |.exit id,_,W'=>KeepsFrom B W W'/\Ix (.exit id) W'
 |.goto t,_,W'=>KeepsFrom B W W'/\Ix (.goto t) W'
 |.panic _,_,_=>False
 |.outgrown,_,_=>False
theorem wp_iter {α:Type} {P:Program} (T:TypeId) {g:Operand} {ps:Array Tmp} {assign body:Code} {Q:Exit->Act->World->Prop} {a:Act} {w:World}
  {gf:Nat} {lb:Array Value} (hg:a.eval g=.func (.func gf) #[] lb) (eg: ∀args w,(callFunc gf args).run P w=.ok (.enter gf args) w)
  {encs:α->Array Value} (hps: ∀x,(encs x).size=ps.size) {Pre:α->World->World->Prop} {Step:List α->α->Prop} {End:List α->Prop} {Aux:World->Prop}
  (hPre: ∀x W0 W l r r',Pre x W0 W->W.heap[l]?=some (.loop r)->Pre x W0 (W.putObj l (.loop r')))
  (hiter: ∀W1,Below w.heap.size w W1->w.heap.size<=W1.heap.size->IterOK P T w.heap.size gf lb encs Pre Step End Aux W1)
  (I:List α->World->Prop) (Ix:Code->World->Prop) (hI: ∀pre A B,I pre A->Same1 T w.heap.size A B->I pre B) (hIx: ∀c A B,Ix c A->Same1 T w.heap.size A B->Ix c B) (hAux: ∀pre W,I pre W->Aux W) (h0:I [] w)
  (a₁:α->Act)
  (hassign: ∀(l:Nat) (x:α) (W:World) (K:Act->World->Prop),K (a₁ x) W->
   assign.wpIn (Fence.wide.inRound l) 7 P (Exit.then K (fun _ _ _=>False)) {tmps:=(ps.zip (encs x)).foldl (fun t (p,v)=>t.setIfInBounds p v) a.tmps,defers:=[]} W)
  (hbody: ∀(l:Nat) (pre:List α) (x:α) (W0 W:World),I pre W0->Same1 T w.heap.size W0 W->Pre x W0 W->Step pre x->w.heap.size<=l->w.heap.size<=W0.heap.size->
   body.wpIn (Fence.wide.inRound l) 7 P (iterPost w.heap.size T I Ix (pre++[x]) W) (a₁ x) W)
  (hdone: ∀(D:Nat) (xs:List α) (W:World),w.heap.size<=D->End xs->I xs W->W.heap[D]?=some (.deferred (some []))->Q .normal {a with defers:={target:=.collected D,args:= #[]} :: a.defers} W)
  (hstop: ∀(D:Nat) (c:Code) (W:World),w.heap.size<=D->Ix c W->W.heap[D]?=some (.deferred (some []))->c.wpIn Fence.wide 9 P Q {a with defers:={target:=.collected D,args:= #[]} :: a.defers} W):
  (Code.rangeFunc g ps assign body).wpIn Fence.wide 9 P Q a w:=by
 refine wpIn_rangeFunc ?_;intro fn hfn;have hro:Fence.wide.round=none:=rfl;rw[hro]
 obtain⟨rec,hrec⟩: ∃rec:LoopState->Option Code->Loop,rec=fun st pe=>{state:=st,pending:=pe,fn,tmps:=a.tmps,params:=ps,assign,body,defers:=w.heap.size}:=⟨_,rfl⟩
 obtain⟨W1,hW1⟩:=aj ((w.alloc (.deferred (some []))).alloc (.loop (rec .ready none)))
 have hL1:W1.heap[w.heap.size+1]?=some (.loop (rec .ready none)):=by
  rw[<-hW1];have:=World.alloc_heap_new (w.alloc (.deferred (some []))) (.loop (rec .ready none));rwa [World.size_alloc]at this
 have hK1:W1.heap[w.heap.size]?=some (.deferred (some [])):=by
  rw[<-hW1];exact(Below.heap_alloc _ _ _ (by simp)).trans (World.alloc_heap_new w _)
 have hb1:Below w.heap.size w W1:=by
  rw[<-hW1];exact((Below.refl _ w).alloc (rM _) _).alloc (by simp) _
 have hs1:W1.heap.size=w.heap.size+2:=by rw[<-hW1];simp
 have hI1:I [] W1:=hI _ _ _ h0 (.of_below hb1)
 have wide: ∀{A B:World},Same1 T W1.heap.size A B->Same1 T w.heap.size A B:=fun h=>⟨h.os,h.tape,h.output,h.size,fun k hk hA=>h.low k (by omega) hA,h.block⟩
 refine⟨w.heap.size+1,[{target:=.collected w.heap.size,args:= #[]}],W1,{target:=.fn (.func gf) lb,args:= #[.func (.yield (w.heap.size+1)) #[] #[]]},W1,gf,
  #[.func (.yield (w.heap.size+1)) #[] #[]]++lb,W1, ?_, ?_, ?_, ?_,fun _=>by omega, ?_⟩
 ·rw[<-hW1,hrec];exact run_enterLoop_outer _ _ _ _ _
 ·simp only[resolve,hg]
  simp[go_sem]
 ·intro f' hf';exact trivial
 ·simp[invoke,go_sem,eg]
 have book: ∀{A B:World},Same1 T W1.heap.size A B->A.heap[w.heap.size+1]?=some (.loop (rec .ready none))->A.heap[w.heap.size]?=some (.deferred (some []))->
   B.heap[w.heap.size+1]?=some (.loop (rec .ready none))/\B.heap[w.heap.size]?=some (.deferred (some [])):=fun h h1 h2=>
  ⟨(h.low _ (by omega) (sW.1 h1).1).trans h1,(h.low _ (by omega) (sW.1 h2).1).trans h2⟩
 refine(hiter W1 hb1 (by omega) (w.heap.size+1)
  (fun pre W=>I pre W/\W.heap[w.heap.size+1]?=some (.loop (rec .ready none))/\W.heap[w.heap.size]?=some (.deferred (some [])))
  (fun W=>(∃pre,End pre/\I pre W/\W.heap[w.heap.size+1]?=some (.loop (rec .ready none))/\W.heap[w.heap.size]?=some (.deferred (some [])))\/
   ∃c,Ix c W/\W.heap[w.heap.size+1]?=some (.loop (rec .done (some c)))/\W.heap[w.heap.size]?=some (.deferred (some [])))
  (fun pre W h=>hAux pre W h.1) ?_ ?_ ?_ ⟨hI1,hL1,hK1⟩).mono ?_
 ·rintro pre A B ⟨h1,h2,h3⟩ h
  exact⟨hI _ _ _ h1 (wide h),book h h2 h3⟩
 ·
  rintro pre x W0 W ⟨hi,hl0,hk0⟩ hsame hpre hstep;obtain⟨hl,hk⟩:=book hsame hl0 hk0
  have hlt:w.heap.size+1<W.heap.size:=(sW.1 hl).1
  have hy:=run_yield (P:=P) (args:=encs x) hl (by rw[hrec];exact hps x)
  rw[hrec]at hy
  refine⟨fn,_,assign,body,hy,roundIn_of_wpIn trivial (hassign _ x W _ ⟨_,run_beginRound hl (by rw[hrec]), ?_⟩)⟩
  have hl2:(W.putObj (w.heap.size+1) (.loop {rec .ready none with state:=.busy})).heap[w.heap.size+1]?=some (.loop {rec .ready none with state:=.busy}):=World.putObj_heap_same hlt
  have hk2:(W.putObj (w.heap.size+1) (.loop {rec .ready none with state:=.busy})).heap[w.heap.size]?=some (.deferred (some [])):=(World.putObj_heap_other (by omega)).trans hk
  have hs2:Same1 T w.heap.size W (W.putObj (w.heap.size+1) (.loop {rec .ready none with state:=.busy})):=Same1.putObj _ hl (by omega)
  refine wpIn_mono (hbody _ pre x W0 _ hi ((wide hsame).trans hs2) (hPre _ _ _ _ _ _ hpre hl) hstep (by omega) (by have:=(sW.1 hl0).1;omega)) ?_
  have fin: ∀(jump:Option Code) (W3:World),KeepsFrom w.heap.size (W.putObj (w.heap.size+1) (.loop {rec .ready none with state:=.busy})) W3->
    (Instr.endRound (w.heap.size+1) jump).run P W3=.ok (.bool jump.isNone) (W3.putObj (w.heap.size+1) (.loop (rec (if jump.isNone then .ready else .done) jump)))/\
    W3.heap[w.heap.size+1]?=some (.loop {rec .ready none with state:=.busy})/\
    (W3.putObj (w.heap.size+1) (.loop (rec (if jump.isNone then .ready else .done) jump))).heap[w.heap.size+1]?=some (.loop (rec (if jump.isNone then .ready else .done) jump))/\
    (W3.putObj (w.heap.size+1) (.loop (rec (if jump.isNone then .ready else .done) jump))).heap[w.heap.size]?=some (.deferred (some [])):=fun jump W3 hk3=>by
   have hl3:=hk3.same _ _ (by omega) hl2 rfl
   have:=run_endRound (P:=P) jump hl3;rw[hrec]at this⊢
   exact⟨this,by rw[hrec]at hl3;exact hl3,World.putObj_heap_same (sW.1 hl3).1,(World.putObj_heap_other (by omega)).trans (hk3.same _ _ (rM _) hk2 rfl)⟩
  have putT: ∀(V:World) (r r':Loop),V.heap[w.heap.size+1]?=some (.loop r)->KeepT T V (V.putObj (w.heap.size+1) (.loop r')):=fun V r r' h=>
   ⟨by simp[World.putObj],fun k c fz hc=>(World.putObj_heap_other (fun e=>by subst e;rw[h]at hc;cases hc)).trans hc⟩
  rintro e a3 W3 hp;cases e with
  |normal=>
   obtain⟨hk3,hkp3,hi3⟩:=hp;obtain⟨hr,hl3,hl4,hk4⟩:=fin none W3 hk3
   exact⟨_,_,hr,.inl ⟨rfl,⟨hI _ _ _ hi3 (Same1.putObj _ hl3 (by omega)),hl4,hk4⟩,(putT W _ _ hl).trans (hkp3.trans (putT W3 _ _ hl3))⟩⟩
  |ret=>
   obtain⟨hk3,hi3⟩:=hp;obtain⟨hr,hl3,hl4,hk4⟩:=fin (some .ret) W3 hk3
   exact⟨_,_,hr,.inr ⟨rfl,.inr ⟨.ret,hIx _ _ _ hi3 (Same1.putObj _ hl3 (by omega)),hl4,hk4⟩⟩⟩
  |exit id=>
   obtain⟨hk3,hi3⟩:=hp;obtain⟨hr,hl3,hl4,hk4⟩:=fin (some (.exit id)) W3 hk3
   exact⟨_,_,hr,.inr ⟨rfl,.inr ⟨.exit id,hIx _ _ _ hi3 (Same1.putObj _ hl3 (by omega)),hl4,hk4⟩⟩⟩
  |goto t=>
   obtain⟨hk3,hi3⟩:=hp;obtain⟨hr,hl3,hl4,hk4⟩:=fin (some (.goto t)) W3 hk3
   exact⟨_,_,hr,.inr ⟨rfl,.inr ⟨.goto t,hIx _ _ _ hi3 (Same1.putObj _ hl3 (by omega)),hl4,hk4⟩⟩⟩
  |panic ch=>exact hp.elim
  |outgrown=>exact hp.elim
 ·rintro pre W ⟨h1,h2,h3⟩ hend
  exact .inl ⟨pre,hend,h1,h2,h3⟩
 rintro e W2 ⟨⟨v,rfl⟩,(⟨xs,hend,hi,hl,hk⟩|⟨c,hi,hl,hk⟩)⟩
 ·exact⟨none,_,by have:=run_endLoop (P:=P) hl (by rw[hrec];simp);rw[hrec]at this;exact this,hdone _ xs _ (rM _) hend (hI _ _ _ hi (Same1.putObj _ hl (by omega))) ((World.putObj_heap_other (by omega)).trans hk)⟩
 exact⟨some c,_,by have:=run_endLoop (P:=P) hl (by rw[hrec];simp);rw[hrec]at this;exact this,hstop _ c _ (rM _) (hIx _ _ _ hi (Same1.putObj _ hl (by omega))) ((World.putObj_heap_other (by omega)).trans hk)⟩
theorem calls_of_wp_marks {P:Program} {f:FuncId} {fn:Func} {c:Code} {args:Array Value} {w:World} {R:Ending->World->Prop} (hf:P.funcs[f]?=some fn) (hb:fn.body=some c)
  (h:c.wp P (bodyPostM Fence.wide 9 P fn R) {tmps:=args++Array.replicate (fn.ntmps - args.size) undef,defers:=[]} w):Calls P f args w R:=
 callsIn_wide.1 (callsIn_of_wp_marks (n:=9) hf hb trivial (wpIn_wide.2 h))
theorem blk_putObj {V:World} {D b:Nat} {t:TypeId} {c:Array Value} {o:Obj} (hK:V.heap[D]?=some (.deferred (some []))) (h:Blk V b t c):Blk (V.putObj D o) b t c:=
 (World.putObj_heap_other (fun e=>by subst e;unfold Blk at h;rw[hK]at h;cases h)).trans h
theorem same_putObj {V:World} {D:Nat} (hK:V.heap[D]?=some (.deferred (some []))): ∀(k:Nat) (c:Array Value) (t:TypeId) (fz:Nat×Nat),V.heap[k]?=some (Obj.cells c t fz)->(V.putObj D (.deferred none)).heap[k]?=some (Obj.cells c t fz):=fun k c t fz h=>
 (World.putObj_heap_other (fun e=>by subst e;rw[hK]at h;cases h)).trans h
theorem own_putObj {V:World} {D base e size n:Nat} {v:Value} {xs:List Value} (hK:V.heap[D]?=some (.deferred (some []))) (h:V.ownsRow base e size v n xs):(V.putObj D (.deferred none)).ownsRow base e size v n xs:=by
 refine⟨h.1, ?_⟩
 rcases h.2 with hn|⟨g,cap,cur,rfl,hb,hg,rest⟩
 ·exact .inl hn
 exact .inr ⟨g,cap,cur,rfl,hb,same_putObj hK _ _ _ _ hg,rest⟩
theorem below_putObj {B:Nat} {A V:World} {D:Nat} {o:Obj} (h:Below B A V) (hD:B<=D):Below B A (V.putObj D o):=
 ⟨h.os,h.tape,h.output,by simpa[World.putObj] using h.size,fun k hk=>(World.putObj_heap_other (by omega)).trans (h.block k hk)⟩
theorem ret_mark {P:Program} {fn:Func} {tmps:Array Value} {R:Ending->World->Prop} {V:World} {D:Nat} {v:Value} (hK:V.heap[D]?=some (.deferred (some [])))
  (hr:(results fn tmps).run P (V.putObj D (.deferred none))=.ok v (V.putObj D (.deferred none))) (hR:R (.returned v) (V.putObj D (.deferred none))):
  bodyPostM Fence.wide 9 P fn R .ret {tmps:=tmps,defers:=[{target:=.collected D,args:= #[]}]} V:=
 ⟨by simp,.inl ⟨_,_,rfl,run_takeDeferred hK,⟨_,hr,hR⟩⟩⟩
end Go.Proofs.YtanlehkalkafdaaGreatDoor
namespace Go.Proofs.YtanlehkalkafdaaGreatDoor
open Go.RowKit
attribute [local go_sem] Oper.semAt_some
structure Yld where
 v:Value
 fs:List Csv.F
 e:Nat
def Yld.enc (x:Yld):Array Value:= #[x.v,.int .i64 x.e]
def Yld.Pre (x:Yld) (W0 W:World):Prop:=if x.e=0 then W.ownsRow W0.heap.size 9 1 x.v x.fs.length (x.fs.map S) else x.v=.slice none 0 0/\x.fs=[]
def Yld.Step (l:Csv.F) (pre:List Yld) (x:Yld):Prop:=
 (∀y∈pre,y.e=0)/\pre.length<=(Csv.rowsOf l).1.length/\pre.map (·.fs)=(Csv.rowsOf l).1.take pre.length/\
  (if x.e=0 then(Csv.rowsOf l).1[pre.length]?=some x.fs else pre.length=(Csv.rowsOf l).1.length/\(Csv.rowsOf l).2=x.e)
def Yld.End (l:Csv.F) (pre:List Yld):Prop:=
 ((Csv.rowsOf l).2=0/\(∀y∈pre,y.e=0)/\pre.map (·.fs)=(Csv.rowsOf l).1)\/
 (∃q x,pre=q++[x]/\x.e≠0/\(Csv.rowsOf l).2=x.e/\(∀y∈q,y.e=0)/\q.map (·.fs)=(Csv.rowsOf l).1)
theorem rows_iter (s:ByteArray) (hs:s.size<=16777216) (n₁ Bt:Nat) (hBt:Bt<n₁) (W1:World) (hn:n₁<=W1.heap.size) (hc:W1.cell? ⟨Bt,0,none⟩=some (.string s)):
  IterOK Tryz.prog 165 n₁ 112 #[.pointer (some ⟨Bt,0,none⟩)] Yld.enc Yld.Pre (Yld.Step s.data.toList) (Yld.End s.data.toList) (fun W=>W.cell? ⟨Bt,0,none⟩=some (.string s)) W1:=by
 intro l J Fin hAux hJ hY hEnd h0;refine callsIn_wide.2 ?_;have HX:=ah hAux;clear hAux
 have HJ:=ah hJ;have HY:=ah hY;have HE:=ah hEnd;clear hJ hY hEnd
 go_enter Tryz.func112,Tryz.ntmps112;go_wp2
 have hblk0:Blk (W1.alloc (.cells #[.string s,.int .i64 0] 165)) W1.heap.size 165 #[.string s,.int .i64 ((0:Nat):Int)]:=Blk.new _ _ _
 have hJ0:J [] (W1.alloc (.cells #[.string s,.int .i64 0] 165)):=HJ.out _ _ _ h0 (.of_below ((Below.refl _ _).alloc (rM _) _))
 have hc0:(W1.alloc (.cells #[.string s,.int .i64 0] 165)).cell? ⟨Bt,0,none⟩=some (.string s):=(World.cell?_alloc_lt W1 _ ⟨Bt,0,none⟩ (by simp;omega)).trans hc
 have HB0:=ah hblk0;have HC0:=ah hc0;have HJ0:=ah hJ0;clear hblk0 hJ0 hc0 h0
 go_loopg [4] s.size (fun g _ wr=> ∃(at':Nat) (pre:List Yld),at'<=s.size/\s.size - at'<=g/\J pre wr/\Blk wr W1.heap.size 165 #[.string s,.int .i64 at']/\wr.cell? ⟨Bt,0,none⟩=some (.string s)/\
  (∀y∈pre,y.e=0)/\Csv.rowsOf s.data.toList=Csv.rowsA (g+1) (pre.map (·.fs)) (s.data.toList.drop at')/\W1.heap.size<=wr.heap.size)
 case atStart=>exact⟨0,[],by omega,by omega,HJ0.out,HB0.out,HC0.out,by simp,by rw[vX];unfold Csv.rowsOf;rw[<-Lib.size_eq];rfl,by simp⟩
 obtain⟨at',pre,hle,hgk,hj,hblk,hcb,hpre,hro,hsz⟩:=hrel;have h0:=hblk.cell 0
 have h1:=hblk.cell 1;simp at h0 h1;have HK:=ah hblk;have HJR:=ah hj;have HR:=ah hro
 have HP:=ah hpre;clear hblk hj hro hpre hc;by_cases hlt:at'<s.size
 ·have hd:decide ((at':Int)<s.size)=true:=by simp;omega
  go_wp2
  go_quiet (fail)
  have HCB:Hid ((wr.drewN nq).cell? ⟨Bt,0,none⟩=some (.string s)):=hcb
  have HK':Hid (Blk (wr.drewN nq) W1.heap.size 165 #[.string s,.int .i64 at']):=HK.out
  have HJ':Hid (J pre (wr.drewN nq)):=HJ.out _ _ _ HJR.out ((Same1.refl _ _ _).drewN nq)
  have hsz':W1.heap.size<=(wr.drewN nq).heap.size:=hsz;clear hcb h0 h1 HK HJR hsz
  generalize wr.drewN nq=W0 at*
  go_wp2_with fail;refine(row_any W1.heap.size s at' _ HK'.out hle hs).mono ?_
  rintro e W hres;obtain⟨hgr,hres⟩:=hres
  have HD:Hid ((s.data.toList.drop at').length=s.size - at'):=by rw[uJ,<-Lib.size_eq];exact rfl
  obtain⟨res,hres'⟩:=aj (Csv.rowA (s.size - at'+1) [] (s.data.toList.drop at'))
  rw[hres']at hres;have HA:=ah hres';clear hres';obtain⟨code,fs,r⟩:=res;cases code with
  |zero=>
   obtain⟨v,at2,rfl,hown,hat2,hdr2,hblk2⟩:=hres;have HO:=ah hown;have HB2:=ah hblk2
   have HD2:=ah hdr2;have HG:=ah hgr
   have hne:s.data.toList.drop at'≠ []:=fun e=>by have:=HD.out;rw[e]at this;simp at this;omega
   have hrow:Csv.rowsOf s.data.toList=Csv.rowsA gk (pre.map (·.fs)++[fs]) r:=by
    rw[HR.out,Csv.rowsA_some hne (by rw[HD.out];exact HA.out)]
   have hpx:pre.map (·.fs)++[fs] <+:(Csv.rowsOf s.data.toList).1:=by rw[hrow];exact Csv.rowsA_prefix _ _ _
   have hstep:Yld.Step s.data.toList pre ⟨v,fs,0⟩:=by
    have h5:=Csv.take_of_prefix ((List.prefix_append _ _).trans hpx)
    have h6:=Csv.get_of_prefix hpx;have h7:=hpx.length_le;simp only[sU,rP]at h5 h6 h7
    exact⟨HP.out,by omega,h5.symm,by rw[rY rfl];exact h6⟩
   have hsame:Same1 165 W1.heap.size W0 W:=.of_grown HG.out HK'.out (rM _)
   obtain⟨fn,tmps,assign,body,hy,hR⟩:=HY.out pre ⟨v,fs,0⟩ W0 W HJ'.out hsame (by show(if 0=0 then _ else _);rw[rY rfl];exact HO.out) hstep
   have hy':(Instr.yield l #[v,.int .i64 0]).run Tryz.prog W=.ok (.round l fn tmps assign body) W:=hy
   have HRD:=ah hR;have HROW:=ah hrow
   clear hown hblk2 hdr2 hgr hne hrow hpx hstep hsame hR hy
   go_upto_region 3 with(fail)
   refine(wpIn_wide (n:=8)).1 ?_
   gi_wp2
   refine HRD.mono ?_;rintro e W' (⟨rfl,hj,hk⟩|⟨rfl,hf⟩)
   ·have hdec:r.length<(s.data.toList.drop at').length:=by
     rcases(Csv.read_row (s.size - at'+1) (s.data.toList.drop at') [] [] (by rw[HD.out];omega) (.inr (fun e=>by have:=HD.out;rw[e]at this;simp at this;omega))).2 (by rw[HA.out]) with h5|⟨h5,_⟩
     ·rw[HA.out]at h5;exact h5
     have:=HD.out;rw[h5]at this;simp at this;omega
    have hlr:r.length=s.size - at2:=by rw[<-HD2.out,uJ,<-Lib.size_eq]
    have hdl:=HD.out;rw[hdl,hlr]at hdec;have hgz: ∃g,gk=g+1:=⟨gk - 1,by omega⟩
    have HDEC:=ah hdec;clear hlr hdl hdec
    gi_wp2
    go_wp2;obtain⟨g,rfl⟩:=hgz
    go_roundg g
    case measure=>omega
    refine⟨at2,pre++[⟨v,fs,0⟩],hat2,by have:=HDEC.out;omega,hj,hk.blk HB2.out,HX.out _ _ hj, ?_, ?_, ?_⟩
    ·intro y hy
     rcases tZ.1 hy with h|h
     ·exact HP.out y h
     rw[ug.1 h]
    ·rw[HROW.out,HD2.out];simp
    exact rV (rV hsz' HG.size) hk.size
   gi_wp2
   go_wp2;refine bodyPost_ret (results_none rfl _ _ _) rfl ?_;exact⟨⟨_,rfl⟩,hf⟩
  |succ k=>
   obtain rfl:=hres;have HG:=ah hgr;clear hgr
   have hne:s.data.toList.drop at'≠ []:=fun e=>by have:=HD.out;rw[e]at this;simp at this;omega
   have hrow:Csv.rowsOf s.data.toList=(pre.map (·.fs),k+1):=by
    rw[HR.out,Csv.rowsA_err hne (by rw[HD.out];exact HA.out)]
   have hlen:(Csv.rowsOf s.data.toList).1.length=pre.length:=by rw[hrow];simp
   have hstep:Yld.Step s.data.toList pre ⟨.slice none 0 0,[],k+1⟩:=by
    refine⟨HP.out,by omega, ?_, ?_⟩
    ·rw[<-hlen,yL,hrow]
    rw[rU (by simp)]
    exact⟨hlen.symm,by rw[hrow]⟩
   have hend:Yld.End s.data.toList (pre++[⟨.slice none 0 0,[],k+1⟩]):=
    .inr ⟨pre,_,rfl,by simp,by rw[hrow],HP.out,by rw[hrow]⟩
   have hsame:Same1 165 W1.heap.size W0 W:=.of_grown HG.out HK'.out (rM _)
   obtain⟨fn,tmps,assign,body,hy,hR⟩:=HY.out pre ⟨.slice none 0 0,[],k+1⟩ W0 W HJ'.out hsame (by show(if k+1=0 then _ else _);rw[rU (by omega)];exact⟨rfl,rfl⟩) hstep
   have hy':(Instr.yield l #[.slice none 0 0,.int .i64 ((k:Int)+1)]).run Tryz.prog W=.ok (.round l fn tmps assign body) W:=by
    have e:((k+1:Nat):Int)=(k:Int)+1:=by omega
    have:=hy;simp only[Yld.enc,e]at this;exact this
   have HRD:=ah hR;have HEND:=ah hend;have hk1:(((k:Int)+1) !=0)=true:=by rw[tH];omega
   clear hne hrow hlen hstep hsame hR hy hend
   go_upto_region 3 with(fail)
   refine(wpIn_wide (n:=8)).1 ?_
   gi_wp2
   refine HRD.mono ?_;rintro e W' (⟨rfl,hj,hk⟩|⟨rfl,hf⟩)
   ·gi_wp2
    go_wp2;refine bodyPost_ret (results_none rfl _ _ _) rfl ?_
    exact⟨⟨_,rfl⟩,HE.out _ _ hj HEND.out⟩
   gi_wp2
   go_wp2;refine bodyPost_ret (results_none rfl _ _ _) rfl ?_;exact⟨⟨_,rfl⟩,hf⟩
 have hd:decide ((at':Int)<s.size)=false:=by simp;omega
 have hend:Yld.End s.data.toList pre:=by
  have e:s.data.toList.drop at'=[]:=uq (by have:=Lib.size_eq s;omega)
  have h5:Csv.rowsOf s.data.toList=(pre.map (·.fs),0):=by
   rw[HR.out,e,Csv.rowsA,rY rfl]
  exact .inl ⟨by rw[h5],HP.out,by rw[h5]⟩
 have HEND:=ah hend;clear hend;go_wp2
 go_quiet (fail)
 go_wp2
 go_end0
 exact⟨⟨_,rfl⟩,HE.out _ _ (HJ.out _ _ _ HJR.out ((Same1.refl _ _ _).drewN nq)) HEND.out⟩
end Go.Proofs.YtanlehkalkafdaaGreatDoor
