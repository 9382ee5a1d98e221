/- The row's card,out of the contracts. -/
import Derived.Test.YtanlehkalkafdaaGreatDoorUR42
set_option maxHeartbeats 64000000
set_option maxRecDepth 1000000
set_option linter.all false
namespace Go.Proofs.YtanlehkalkafdaaGreatDoor.tableAnyOrder
open Go.ChangeShapes Go.WideShapes Go.ChangeAt Go.RowKit Go.ChangeMaps
theorem params_read: ∀t∈Tryz.f7.params.toList,Tryz.prog.readableRec t=true/\t<Tryz.prog.types.size:=by
 rw[Tryz.params7];intro t ht;simp only[uD,xF,AY]at ht
 rcases ht with rfl|rfl<;>exact⟨by kernel_rfl,sQ (by kernel_rfl)⟩
theorem contract (H:Type) (enc:TypeId×Value->H) (W:World) (base:Nat) (args:Array Value) (ds gs:List (DataW H)) (before:List MemPlace)
  (hval: ∀(j:Nat) t v,Tryz.f7.params[j]?=some t->args[j]?=some v->Value.okWide Tryz.prog W .any base t v)
  (hW:DataW.Whole enc Tryz.prog Tryz.f7.params.toList Rows.tableAnyOrderSpec.vars false W args.toList ds gs before) (hk:Rows.uptoSmall H (ds++gs)=true) (hL:laidMetH Tryz.prog laidList W) (hS:W.ShapedOpen Tryz.prog):
  Calls Tryz.prog 7 args W fun e W'=> ∃v,e=.returned v/\Rows.tableAnyOrderSpec.post enc Tryz.prog Tryz.f7 false true false false W args v W':=by
 have hl:=laid_of hL hS;clear hL hS;have hW':=hW
 have hlt: ∀p∈before,p.block<W.heap.size:=fun p hp=>hW.lt p hp
 obtain⟨p,q,hA0,hV,rfl,hfz,hnd⟩:=hW
 have hA:DataW.TrodAll enc Tryz.prog W 0 (fun _=>true) true Tryz.f7.params.toList args.toList ds p:=hA0
 have hAk:=hA;rw[Tryz.params7]at hA hval
 obtain⟨v0,oD,d0,ds0,p0,q0,hargs,rfl,rfl,h0,r0⟩:=trodAll_cons hA
 obtain⟨v1,vs1,d1,ds1,p1,q1,rfl,rfl,rfl,h1,r1⟩:=trodAll_cons r0
 obtain⟨rfl,rfl,rfl⟩:=trodAll_nil r1;obtain rfl:args= #[v0,v1]:=by cases args;simp_all
 obtain⟨rfl,rfl⟩:=trodVars_none hV;clear hA0;simp only[tC,tY]at hW' hk hlt hAk
 have hsz:Rows.uptoBulkAll (H:=H) [d0,d1]<=1048576:=by simpa[Rows.uptoSmall] using hk
 simp only[Rows.uptoBulkAll]at hsz
 obtain⟨iY,hcv0⟩:=open_graph (hval 0 25 v0 rfl rfl) h0 (by omega)
 obtain⟨qV,hcv1⟩:=oZ (hval 1 42 v1 rfl rfl) h1 (by omega)
 refine(pK _ iY _ qV W hcv0 hcv1 hl).mono fun e W' ⟨he,hb⟩=> ?_
 subst he
 exact⟨_,rfl,post_below (pa:=_) (pv:=[]) hW' (fun _ _ _=>trodAll_cons_mk (shut_bool Tryz.underlying4 _) trodAll_mk0) (fun sp hsp=>trodAll_stay laid_out hb params_read hAk hsp hlt) (fun _ _=>rfl) (by simp)
  hb (ok_one (by kernel_rfl) rfl (okWide_bool_mk Tryz.underlying4 _))⟩
theorem reads (os:Os) {H:Type} (enc:TypeId×Value->H): ∃places,DataW.whole enc Tryz.prog ((laidWorld os).forCall (fun _ _=>0) ⟨#[],#[.agg #[.slice none 0 0,.slice none 0 0],.slice none 0 0],[]⟩).memory Tryz.f7.params.toList Rows.tableAnyOrderSpec.vars false (#[.agg #[.slice none 0 0,.slice none 0 0],.slice none 0 0]:Array Value).toList 8=some ([.agg [.nil,.nil],.nil],[],places):=
 ⟨[],by kernel_rfl⟩
theorem lifted (os:Os) (started:os.Started) (H:Type) (enc:TypeId×Value->H) (F:Stop.Interp):
  ReturnsInHanded {} Tryz.checked os 7 .any ((Rows.OpenSpec.upto Rows.tableAnyOrderSpec).preRow enc Tryz.prog Tryz.f7 Rows.tableAnyOrderUptoRow.domain false Rows.tableAnyOrderUptoRow.laid) (((Rows.OpenSpec.upto Rows.tableAnyOrderSpec).at F).post enc Tryz.prog Tryz.f7 false true false false):=by
 obtain⟨places,hx⟩:=reads os enc
 refine returnsInHanded_of_row (C:=Tryz.checked) (s:=(Rows.OpenSpec.upto Rows.tableAnyOrderSpec)) own_knob started (by kernel_rfl) Tryz.func7
  (witness_row_atRef (enc:=enc) (C:=Tryz.checked) false (laidWorld os) #[.agg #[.slice none 0 0,.slice none 0 0],.slice none 0 0] rfl (by kernel_rfl) (by kernel_rfl) (by kernel_rfl)
   (OpenSpec.preRow_of_cond 8 hx (by kernel_rfl) (fun k hk=>by cases hk;kernel_rfl) (by kernel_rfl) (laid_met os _))) ?_
 intro W base args ds gs before hval hW _ hcond _ hL hS _
 exact contract H enc W base args ds gs before hval hW (hcond _ rfl) hL hS
theorem and_mk {a b:Bool} (ha:a=true) (hb:b=true):(a && b)=true:=by rw[ha,hb];rfl
theorem closed:joinedFacts Tryz.pinned.checked.prog 7 Tryz.f7 (Rows.OpenSpec.upto Rows.tableAnyOrderSpec).bare Rows.tableAnyOrderUptoRow=true:=by
 unfold joinedFacts
 iterate 31 (refine and_mk ?_ (by as_aux_lemma=>kernel_rfl))
 kernel_rfl
theorem said:Rows.TableAnyOrderUptoSaid:=
 OpenClaim.holds_of_cond 7 Tryz.f7 rfl rfl rfl rfl rfl rfl rfl ⟨rfl,rfl,rfl,rfl,rfl⟩ rfl rfl rfl rfl rfl (by kernel_rfl) Tryz.func7 closed
  (sQ (by kernel_rfl)) (by unfold Func.isWrapper;first|(rw[rY (by decide+kernel)];kernel_rfl)|(rw[rU (by decide+kernel)];exact⟨rfl,rfl⟩))
  (fun os started H enc _ F=>by rw[OpenClaim.pre_eq_preRow];exact lifted os started H enc F)
theorem plain (f:FuncId) (fn:Func) (hf:Tryz.pinned.checked.prog.funcNamed "satchel/satchellaw23.TableAnyOrder" =some f) (hfn:Tryz.pinned.checked.prog.funcs[f]?=some fn):
  true=Tryz.pinned.checked.prog.looks []/\ ∀(j:Nat) t,fn.params[j]?=some t->Tryz.pinned.checked.prog.wantsStandIn t=false:=by
 obtain rfl:f=7:=tN ((show Tryz.prog.funcNamed "satchel/satchellaw23.TableAnyOrder" =some 7 by kernel_rfl).symm.trans hf)|>.symm
 obtain rfl:fn=Tryz.f7:=(tN (Tryz.func7.symm.trans hfn)).symm
 refine⟨by kernel_rfl,fun j t ht=> ?_⟩
 rw[Tryz.params7]at ht;have hm:=AB ht;simp only[List.mem_toArray,uD,xF,AY]at hm
 rcases hm with rfl|rfl
 ·exact(show Tryz.prog.wantsStandIn 25=false by kernel_rfl)
 exact(show Tryz.prog.wantsStandIn 42=false by kernel_rfl)
theorem cardUpto:Rows.TableAnyOrderUptoCardSaid:=
 Claim7.holds_tied_plain_at .later [] _ _ _ _ said (fun _ h=>by cases h) (by kernel_rfl) (fun _ h=>by cases h) tableAnyOrderUpto_row_tie rfl ⟨rfl,rfl⟩ (by kernel_rfl) rfl plain (by kernel_rfl)
end Go.Proofs.YtanlehkalkafdaaGreatDoor.tableAnyOrder
