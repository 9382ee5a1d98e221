/- The row's card,out of the contracts. -/
import Derived.Test.YtkdakckjafomhaaGreatDoorUW45
import Derived.SliceStrings
import Derived.ChangeSlices
set_option maxHeartbeats 64000000
set_option maxRecDepth 1000000
set_option linter.all false
namespace Go.Proofs.YtkdakckjafomhaaGreatDoor.tableParses
open Go.ChangeShapes Go.WideShapes Go.ChangeAt Go.RowKit Go.ChangeMaps
theorem amF: ∀t∈Tryz.f3.params.toList,Tryz.prog.readableRec t=true/\t<Tryz.prog.types.size:=by
 rw[Tryz.params3];intro t ht;simp only[aeY,anu,apX]at ht
 rcases ht with rfl|rfl<;>exact⟨by kernel_rfl,adN (by kernel_rfl)⟩
theorem contract (H:Type) (enc:TypeId×Value->H) (W:World) (base:Nat) (args:Array Value) (ds gs:List (DataW H)) (before:List MemPlace)
  (hval: ∀(j:Nat) t v,Tryz.f3.params[j]?=some t->args[j]?=some v->Value.okWide Tryz.prog W .any base t v)
  (hW:DataW.Whole enc Tryz.prog Tryz.f3.params.toList Rows.tableParsesSpec.vars false W args.toList ds gs before) (hk:Rows.uptoSmall H (ds++gs)=true) (hL:laidMetH Tryz.prog Il W) (hS:W.ShapedOpen Tryz.prog):
  Calls Tryz.prog 3 args W fun e W'=> ∃v,e=.returned v/\Rows.tableParsesSpec.post enc Tryz.prog Tryz.f3 false true false false W args v W':=by
 have hl:=aiu hL hS;clear hL hS;have hW':=hW
 have hlt: ∀p∈before,p.block<W.heap.size:=fun p hp=>hW.lt p hp
 obtain⟨p,q,hA0,hV,rfl,hfz,hnd⟩:=hW
 have hA:DataW.TrodAll enc Tryz.prog W 0 (fun _=>true) true Tryz.f3.params.toList args.toList ds p:=hA0
 have hAk:=hA;rw[Tryz.params3]at hA hval
 obtain⟨v0,vs0,d0,ds0,p0,q0,hargs,rfl,rfl,h0,r0⟩:=trodAll_cons hA
 obtain⟨v1,vs1,d1,ds1,p1,q1,rfl,rfl,rfl,h1,r1⟩:=trodAll_cons r0
 obtain⟨rfl,rfl,rfl⟩:=trodAll_nil r1;obtain rfl:args= #[v0,v1]:=by cases args;simp_all
 obtain⟨rfl,rfl⟩:=trodVars_none hV;clear hA0
 obtain⟨s0,rfl,rfl,rfl,aq1⟩:=open_string Tryz.underlying9 (hval 0 9 v0 rfl rfl) h0
 obtain⟨s1,rfl,rfl,rfl,aq2⟩:=open_string Tryz.underlying9 (hval 1 9 v1 rfl rfl) h1
 simp only[aey,aex]at hW' hk hlt hAk
 have hsz:Rows.uptoBulkAll (H:=H) [.lit (.string s0.data.toList),.lit (.string s1.data.toList)]<=1048576:=by simpa[Rows.uptoSmall] using hk
 simp only[Rows.uptoBulkAll,Rows.uptoBulk]at hsz
 have hs0:s0.size<=1048576:=by rw[Lib.size_eq s0];omega
 have hs1:s1.size<=1048576:=by rw[Lib.size_eq s1];omega
 refine(amE s0 s1 W (by omega) (by omega) hl).mono fun e W' ⟨he,hb⟩=> ?_
 subst he
 exact⟨_,rfl,aiv (pa:=_) (pv:=[]) hW' (fun _ _ _=>trodAll_cons_mk (shut_bool Tryz.underlying4 _) trodAll_mk0) (fun sp hsp=>ZR aiq hb amF hAk hsp hlt) (fun _ _=>rfl) (by simp)
  hb (ok_one (by kernel_rfl) rfl (okWide_bool_mk Tryz.underlying4 _))⟩
theorem reads (os:Os) {H:Type} (enc:TypeId×Value->H): ∃places,DataW.whole enc Tryz.prog ((laidWorld os).forCall (fun _ _=>0) ⟨#[],#[.string ⟨#[]⟩,.string ⟨#[]⟩],[]⟩).memory Tryz.f3.params.toList Rows.tableParsesSpec.vars false (#[.string ⟨#[]⟩,.string ⟨#[]⟩]:Array Value).toList 8=some ([.lit (.string []),.lit (.string [])],[],places):=
 ⟨[],by kernel_rfl⟩
theorem lifted (os:Os) (started:os.Started) (H:Type) (enc:TypeId×Value->H) (F:Stop.Interp):
  ReturnsInHanded {} Tryz.checked os 3 .any ((Rows.OpenSpec.upto Rows.tableParsesSpec).preRow enc Tryz.prog Tryz.f3 Rows.tableParsesUptoRow.domain false Rows.tableParsesUptoRow.laid) (((Rows.OpenSpec.upto Rows.tableParsesSpec).at F).post enc Tryz.prog Tryz.f3 false true false false):=by
 obtain⟨places,hx⟩:=reads os enc
 refine returnsInHanded_of_row (C:=Tryz.checked) (s:=(Rows.OpenSpec.upto Rows.tableParsesSpec)) aip started (by kernel_rfl) Tryz.func3
  (witness_row_atRef (enc:=enc) (C:=Tryz.checked) false (laidWorld os) #[.string ⟨#[]⟩,.string ⟨#[]⟩] rfl (by kernel_rfl) (by kernel_rfl) (by kernel_rfl)
   (OpenSpec.preRow_of_cond 8 hx (by kernel_rfl) (fun k hk=>by cases hk;kernel_rfl) (by kernel_rfl) (laid_met os _))) ?_
 intro W base args ds gs before hval hW _ hcond _ hL hS _
 exact contract H enc W base args ds gs before hval hW (hcond _ rfl) hL hS
theorem amG {a b:Bool} (ha:a=true) (hb:b=true):(a && b)=true:=by rw[ha,hb];rfl
theorem closed:joinedFacts Tryz.pinned.checked.prog 3 Tryz.f3 (Rows.OpenSpec.upto Rows.tableParsesSpec).bare Rows.tableParsesUptoRow=true:=by
 unfold joinedFacts
 iterate 31 (refine amG ?_ (by as_aux_lemma=>kernel_rfl))
 kernel_rfl
theorem said:Rows.TableParsesUptoSaid:=
 OpenClaim.holds_of_cond 3 Tryz.f3 rfl rfl rfl rfl rfl rfl rfl ⟨rfl,rfl,rfl,rfl,rfl⟩ rfl rfl rfl rfl rfl (by kernel_rfl) Tryz.func3 closed
  (adN (by kernel_rfl)) (by unfold Func.isWrapper;first|(rw[adk (by decide+kernel)];kernel_rfl)|(rw[ade (by decide+kernel)];exact⟨rfl,rfl⟩))
  (fun os started H enc _ F=>by rw[OpenClaim.pre_eq_preRow];exact lifted os started H enc F)
theorem plain (f:FuncId) (fn:Func) (hf:Tryz.pinned.checked.prog.funcNamed "satchel/satchellaw23.TableParses" =some f) (hfn:Tryz.pinned.checked.prog.funcs[f]?=some fn):
  true=Tryz.pinned.checked.prog.looks []/\ ∀(j:Nat) t,fn.params[j]?=some t->Tryz.pinned.checked.prog.wantsStandIn t=false:=by
 obtain rfl:f=3:=ad4 ((show Tryz.prog.funcNamed "satchel/satchellaw23.TableParses" =some 3 by kernel_rfl).symm.trans hf)|>.symm
 obtain rfl:fn=Tryz.f3:=(ad4 (Tryz.func3.symm.trans hfn)).symm
 refine⟨by kernel_rfl,fun j t ht=> ?_⟩
 rw[Tryz.params3]at ht;have hm:=Array.mem_of_getElem? ht
 simp only[List.mem_toArray,aeY,anu,apX]at hm
 rcases hm with rfl|rfl
 ·exact(show Tryz.prog.wantsStandIn 9=false by kernel_rfl)
 exact(show Tryz.prog.wantsStandIn 9=false by kernel_rfl)
theorem cardUpto:Rows.TableParsesUptoCardSaid:=
 Claim7.holds_tied_plain_at .later [] _ _ _ _ said (fun _ h=>by cases h) (by kernel_rfl) (fun _ h=>by cases h) tableParsesUpto_row_tie rfl ⟨rfl,rfl⟩ (by kernel_rfl) rfl plain (by kernel_rfl)
end Go.Proofs.YtkdakckjafomhaaGreatDoor.tableParses
