/- The row's card,out of the contracts. -/
import Derived.Test.YtdijgcnlbfgkdaaGreatDoorUP40
import Derived.SliceStrings
import Derived.ChangeSlices
set_option maxHeartbeats 64000000
set_option maxRecDepth 1000000
set_option linter.all false
namespace Go.Proofs.YtdijgcnlbfgkdaaGreatDoor.cypherParses
open Go.ChangeShapes Go.WideShapes Go.ChangeAt Go.RowKit Go.ChangeMaps Go.Proofs.Tryz
theorem ank: ∀t∈Tryz.f3.params.toList,prog.readableRec t=true/\t<prog.types.size:=by
 rw[params3];intro t ht;obtain rfl:t=9:=by simpa using ht
 exact⟨by kernel_rfl,aeL (by kernel_rfl)⟩
theorem contract (H:Type) (enc:TypeId×Value->H) (W:World) (base:Nat) (args:Array Value) (ds gs:List (DataW H)) (before:List MemPlace)
  (hval: ∀(j:Nat) t v,Tryz.f3.params[j]?=some t->args[j]?=some v->Value.okWide prog W .any base t v)
  (hW:DataW.Whole enc prog Tryz.f3.params.toList Rows.cypherParsesSpec.vars false W args.toList ds gs before) (hk:Rows.uptoSmall H (ds++gs)=true) (hL:laidMetH prog II W) (hS:W.ShapedOpen prog):
  Calls prog 3 args W fun e W'=> ∃v,e=.returned v/\Rows.cypherParsesSpec.post enc prog Tryz.f3 false true false false W args v W':=by
 have hl:=ajl hL hS;clear hL hS;have hW':=hW;have hlt: ∀p∈before,p.block<W.heap.size:=fun p hp=>hW.lt p hp
 obtain⟨p,q,hA0,hV,rfl,hfz,hnd⟩:=hW;have hA:DataW.TrodAll enc prog W 0 (fun _=>true) true Tryz.f3.params.toList args.toList ds p:=hA0
 have hAk:=hA;rw[params3]at hA hval;obtain⟨v0,vs0,d0,ds0,p0,q0,hargs,rfl,rfl,h0,r0⟩:=trodAll_cons hA;obtain⟨rfl,rfl,rfl⟩:=trodAll_nil r0;obtain rfl:args= #[v0]:=by cases args;simp_all
 obtain⟨rfl,rfl⟩:=trodVars_none hV;clear hA0;obtain⟨s0,rfl,rfl,rfl,asH⟩:=open_string asa (hval 0 9 v0 rfl rfl) h0;simp only[afy]at hW' hk hlt hAk;have hsz:Rows.uptoBulkAll (H:=H) [.lit (.string s0.data.toList)]<=1048576:=by simpa[Rows.uptoSmall] using hk
 simp only[Rows.uptoBulkAll,Rows.uptoBulk]at hsz;have hs0:s0.size<=1048576:=by rw[aof s0];omega
 refine(anj s0 W (by omega) hl).mono fun e W' ⟨he,hb⟩=> ?_
 subst he
 exact⟨_,rfl,ajm (pa:=_) (pv:=[]) hW' (fun _ _ _=>trodAll_cons_mk (shut_bool ath _) trodAll_mk0) (fun sp hsp=>abd ajh hb ank hAk hsp hlt) (fun _ _=>rfl) (by simp)
  hb (ok_one (by kernel_rfl) rfl (okWide_bool_mk ath _))⟩
theorem reads (os:Os) {H:Type} (enc:TypeId×Value->H): ∃places,DataW.whole enc prog ((laidWorld os).forCall (fun _ _=>0) ⟨#[],#[.string ⟨#[]⟩],[]⟩).memory Tryz.f3.params.toList Rows.cypherParsesSpec.vars false (#[.string ⟨#[]⟩]:Array Value).toList 8=some ([.lit (.string [])],[],places):=
 ⟨[],by kernel_rfl⟩
theorem lifted (os:Os) (started:os.Started) (H:Type) (enc:TypeId×Value->H) (F:Stop.Interp):
  ReturnsInHanded {} Tryz.checked os 3 .any ((Rows.OpenSpec.upto Rows.cypherParsesSpec).preRow enc prog Tryz.f3 Rows.cypherParsesUptoRow.domain false Rows.cypherParsesUptoRow.laid) (((Rows.OpenSpec.upto Rows.cypherParsesSpec).at F).post enc prog Tryz.f3 false true false false):=by
 obtain⟨places,hx⟩:=reads os enc
 refine returnsInHanded_of_row (C:=Tryz.checked) (s:=(Rows.OpenSpec.upto Rows.cypherParsesSpec)) ajg started (by kernel_rfl) func3
  (witness_row_atRef (enc:=enc) (C:=Tryz.checked) false (laidWorld os) #[.string ⟨#[]⟩] rfl (by kernel_rfl) (by kernel_rfl) (by kernel_rfl)
   (OpenSpec.preRow_of_cond 8 hx (by kernel_rfl) (fun k hk=>by cases hk;kernel_rfl) (by kernel_rfl) (laid_met os _))) ?_
 intro W base args ds gs before hval hW _ hcond _ hL hS _;exact contract H enc W base args ds gs before hval hW (hcond _ rfl) hL hS
theorem anl {a b:Bool} (ha:a=true) (hb:b=true):(a && b)=true:=by rw[ha,hb];rfl
theorem closed:joinedFacts Tryz.pinned.checked.prog 3 Tryz.f3 (Rows.OpenSpec.upto Rows.cypherParsesSpec).bare Rows.cypherParsesUptoRow=true:=by
 unfold joinedFacts
 iterate 31 (refine anl ?_ (by as_aux_lemma=>kernel_rfl))
 kernel_rfl
theorem said:Rows.CypherParsesUptoSaid:=
 OpenClaim.holds_of_cond 3 Tryz.f3 rfl rfl rfl rfl rfl rfl rfl ⟨rfl,rfl,rfl,rfl,rfl⟩ rfl rfl rfl rfl rfl (by kernel_rfl) func3 closed
  (aeL (by kernel_rfl)) (by unfold Func.isWrapper;first|(rw[aeu (by decide+kernel)];kernel_rfl)|(rw[aer (by decide+kernel)];exact⟨rfl,rfl⟩))
  (fun os started H enc _ F=>by rw[OpenClaim.pre_eq_preRow];exact lifted os started H enc F)
theorem plain (f:FuncId) (fn:Func) (hf:Tryz.pinned.checked.prog.funcNamed "satchel/satchellaw25.CypherParses" =some f) (hfn:Tryz.pinned.checked.prog.funcs[f]?=some fn):
  true=Tryz.pinned.checked.prog.looks []/\ ∀(j:Nat) t,fn.params[j]?=some t->Tryz.pinned.checked.prog.wantsStandIn t=false:=by
 obtain rfl:f=3:=aeM ((show prog.funcNamed "satchel/satchellaw25.CypherParses" =some 3 by kernel_rfl).symm.trans hf)|>.symm
 obtain rfl:fn=Tryz.f3:=(aeM (func3.symm.trans hfn)).symm;refine⟨by kernel_rfl,fun j t ht=> ?_⟩
 rw[params3]at ht;obtain rfl:t=9:=by simpa using Array.mem_of_getElem? ht
 exact(show prog.wantsStandIn 9=false by kernel_rfl)
theorem cardUpto:Rows.CypherParsesUptoCardSaid:=
 Claim7.holds_tied_plain_at .later [] _ _ _ _ said (fun _ h=>by cases h) (by kernel_rfl) (fun _ h=>by cases h) cypherParsesUpto_row_tie rfl ⟨rfl,rfl⟩ (by kernel_rfl) rfl plain (by kernel_rfl)
end Go.Proofs.YtdijgcnlbfgkdaaGreatDoor.cypherParses
