/- The row's card,out of the contracts. -/
import Derived.Test.YtanlehkalkafdaaGreatDoorUR40
set_option maxHeartbeats 64000000
set_option maxRecDepth 1000000
set_option linter.all false
namespace Go.Proofs.YtanlehkalkafdaaGreatDoor.tableOwn
open Go.ChangeShapes Go.WideShapes Go.ChangeAt Go.RowKit Go.ChangeMaps
theorem params_read: ∀t∈Tryz.f8.params.toList,Tryz.prog.readableRec t=true/\t<Tryz.prog.types.size:=by
 rw[Tryz.params8];intro t ht;obtain rfl:t=25:=by simpa using ht
 exact⟨by kernel_rfl,sQ (by kernel_rfl)⟩
theorem contract (H:Type) (enc:TypeId×Value->H) (W:World) (base:Nat) (args:Array Value) (ds gs:List (DataW H)) (before:List MemPlace)
  (hval: ∀(j:Nat) t v,Tryz.f8.params[j]?=some t->args[j]?=some v->Value.okWide Tryz.prog W .any base t v)
  (hW:DataW.Whole enc Tryz.prog Tryz.f8.params.toList Rows.tableOwnSpec.vars false W args.toList ds gs before) (hk:Rows.uptoSmall H (ds++gs)=true) (hL:laidMetH Tryz.prog laidList W) (hS:W.ShapedOpen Tryz.prog):
  Calls Tryz.prog 8 args W fun e W'=> ∃v,e=.returned v/\Rows.tableOwnSpec.post enc Tryz.prog Tryz.f8 false true false false W args v W':=by
 have hl:=laid_of hL hS;clear hL hS;have hW':=hW
 have hlt: ∀p∈before,p.block<W.heap.size:=fun p hp=>hW.lt p hp
 obtain⟨p,q,hA0,hV,rfl,hfz,hnd⟩:=hW
 have hA:DataW.TrodAll enc Tryz.prog W 0 (fun _=>true) true Tryz.f8.params.toList args.toList ds p:=hA0
 have hAk:=hA;rw[Tryz.params8]at hA hval
 obtain⟨v0,oD,d0,ds0,p0,q0,hargs,rfl,rfl,h0,r0⟩:=trodAll_cons hA
 obtain⟨rfl,rfl,rfl⟩:=trodAll_nil r0;obtain rfl:args= #[v0]:=by cases args;simp_all
 obtain⟨rfl,rfl⟩:=trodVars_none hV;clear hA0;simp only[tC]at hW' hk hlt hAk
 have hsz:Rows.uptoBulkAll (H:=H) [d0]<=1048576:=by simpa[Rows.uptoSmall] using hk
 simp only[Rows.uptoBulkAll]at hsz
 obtain⟨iY,hcv0⟩:=open_graph (hval 0 25 v0 rfl rfl) h0 (by omega)
 refine(oW _ iY W hcv0 hl).mono fun e W' ⟨he,hb⟩=> ?_
 subst he
 exact⟨_,rfl,post_below (pa:=_) (pv:=[]) hW' (fun _ _ _=>trodAll_cons_mk (shut_bool Tryz.underlying4 _) trodAll_mk0) (fun sp hsp=>trodAll_stay laid_out hb params_read hAk hsp hlt) (fun _ _=>rfl) (by simp)
  hb (ok_one (by kernel_rfl) rfl (okWide_bool_mk Tryz.underlying4 _))⟩
theorem reads (os:Os) {H:Type} (enc:TypeId×Value->H): ∃places,DataW.whole enc Tryz.prog ((laidWorld os).forCall (fun _ _=>0) ⟨#[],#[.agg #[.slice none 0 0,.slice none 0 0]],[]⟩).memory Tryz.f8.params.toList Rows.tableOwnSpec.vars false (#[.agg #[.slice none 0 0,.slice none 0 0]]:Array Value).toList 8=some ([.agg [.nil,.nil]],[],places):=
 ⟨[],by kernel_rfl⟩
theorem lifted (os:Os) (started:os.Started) (H:Type) (enc:TypeId×Value->H) (F:Stop.Interp):
  ReturnsInHanded {} Tryz.checked os 8 .any ((Rows.OpenSpec.upto Rows.tableOwnSpec).preRow enc Tryz.prog Tryz.f8 Rows.tableOwnUptoRow.domain false Rows.tableOwnUptoRow.laid) (((Rows.OpenSpec.upto Rows.tableOwnSpec).at F).post enc Tryz.prog Tryz.f8 false true false false):=by
 obtain⟨places,hx⟩:=reads os enc
 refine returnsInHanded_of_row (C:=Tryz.checked) (s:=(Rows.OpenSpec.upto Rows.tableOwnSpec)) own_knob started (by kernel_rfl) Tryz.func8
  (witness_row_atRef (enc:=enc) (C:=Tryz.checked) false (laidWorld os) #[.agg #[.slice none 0 0,.slice none 0 0]] rfl (by kernel_rfl) (by kernel_rfl) (by kernel_rfl)
   (OpenSpec.preRow_of_cond 8 hx (by kernel_rfl) (fun k hk=>by cases hk;kernel_rfl) (by kernel_rfl) (laid_met os _))) ?_
 intro W base args ds gs before hval hW _ hcond _ hL hS _
 exact contract H enc W base args ds gs before hval hW (hcond _ rfl) hL hS
theorem and_mk {a b:Bool} (ha:a=true) (hb:b=true):(a && b)=true:=by rw[ha,hb];rfl
theorem closed:joinedFacts Tryz.pinned.checked.prog 8 Tryz.f8 (Rows.OpenSpec.upto Rows.tableOwnSpec).bare Rows.tableOwnUptoRow=true:=by
 unfold joinedFacts
 iterate 31 (refine and_mk ?_ (by as_aux_lemma=>kernel_rfl))
 kernel_rfl
theorem said:Rows.TableOwnUptoSaid:=
 OpenClaim.holds_of_cond 8 Tryz.f8 rfl rfl rfl rfl rfl rfl rfl ⟨rfl,rfl,rfl,rfl,rfl⟩ rfl rfl rfl rfl rfl (by kernel_rfl) Tryz.func8 closed
  (sQ (by kernel_rfl)) (by unfold Func.isWrapper;first|(rw[rY (by decide+kernel)];kernel_rfl)|(rw[rU (by decide+kernel)];exact⟨rfl,rfl⟩))
  (fun os started H enc _ F=>by rw[OpenClaim.pre_eq_preRow];exact lifted os started H enc F)
theorem plain (f:FuncId) (fn:Func) (hf:Tryz.pinned.checked.prog.funcNamed "satchel/satchellaw23.TableOwn" =some f) (hfn:Tryz.pinned.checked.prog.funcs[f]?=some fn):
  true=Tryz.pinned.checked.prog.looks []/\ ∀(j:Nat) t,fn.params[j]?=some t->Tryz.pinned.checked.prog.wantsStandIn t=false:=by
 obtain rfl:f=8:=tN ((show Tryz.prog.funcNamed "satchel/satchellaw23.TableOwn" =some 8 by kernel_rfl).symm.trans hf)|>.symm
 obtain rfl:fn=Tryz.f8:=(tN (Tryz.func8.symm.trans hfn)).symm
 refine⟨by kernel_rfl,fun j t ht=> ?_⟩
 rw[Tryz.params8]at ht;obtain rfl:t=25:=by simpa using AB ht
 exact(show Tryz.prog.wantsStandIn 25=false by kernel_rfl)
theorem cardUpto:Rows.TableOwnUptoCardSaid:=
 Claim7.holds_tied_plain_at .later [] _ _ _ _ said (fun _ h=>by cases h) (by kernel_rfl) (fun _ h=>by cases h) tableOwnUpto_row_tie rfl ⟨rfl,rfl⟩ (by kernel_rfl) rfl plain (by kernel_rfl)
end Go.Proofs.YtanlehkalkafdaaGreatDoor.tableOwn
