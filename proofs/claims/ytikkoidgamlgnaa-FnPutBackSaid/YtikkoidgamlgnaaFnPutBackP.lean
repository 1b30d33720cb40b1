/- laws.FnPutBack returns true, whatever its arguments are, and leaves what its arguments read as they were. Conditions: those of the given statement, and no more. -/
import Derived.Test.YtikkoidgamlgnaaRows
import Derived.Test.YtikkoidgamlgnaaChecked
import Derived.Test.YtikkoidgamlgnaaFnPutBackC2
set_option linter.unusedVariables false
set_option linter.unusedSimpArgs false
namespace Go.Proofs.Ytikkoidgamlgnaa.lawFnPutBack
open Go.ChangeShapes Go.WideShapes Go.RowKit Go.X Go.Proofs.Ytikkoidgamlgnaa
theorem own:ownKnob Try.prog.godebug=none:=by kernel_rfl
theorem laid:laidOutB Try.prog=true:=by kernel_rfl
theorem op_5:OI Try.prog 5 (RF CF) JL:=zL Try.underlying5
theorem op_22:OI Try.prog 22 (RL (RF CF) 1) (YM JL):=BJ (by_:=1) Try.underlying22 (by kernel_rfl) (by kernel_rfl) rfl (nb rfl) op_5
set_option maxRecDepth 100000 in
set_option maxHeartbeats 2000000 in
theorem lifted(os:Os)(started:os.Started)(H:Type)(enc:TypeId×Value→H) :
    ReturnsInHanded {} Try.checked os 5 .any (Rows.fnPutBackSpec.pre6 enc Try.prog Try.f5 Rows.fnPutBackRow.domain false) (Rows.fnPutBackSpec.post enc Try.prog Try.f5 false true false false):=by
  refine returnsInHanded_of_change_sized (C:=Try.checked) own started (by kernel_rfl) Try.func5
    (ChangeSpec.witness6 (enc:=enc) (C:=Try.checked) false ⟨#[],#[.slice none 0 0],[]⟩ 8 (by kernel_rfl) (by kernel_rfl) (by kernel_rfl) (by kernel_rfl)) ?_
  intro W base args ds gs before hval0 hW _ hsz0 _
  have hval:∀(j:Nat) t v,Try.f5.params[j]? = some t→args[j]? = some v→Value.okWide Try.prog W .any base t v:=hval0
  have hsz1:(DataW.weightsEach Try.prog (Try.f5.params.toList++Rows.fnPutBackSpec.plain.varTypes Try.prog) (ds++gs)).all (·≤reachBytes)=true:=hsz0
  have hW':=hW
  obtain⟨p,q,hA0,hV,-,-,-⟩:=hW
  have hA:DataW.TrodAll enc Try.prog W 0 (fun _=>true) true Try.f5.params.toList args.toList ds p:=hA0
  rw[Try.params5]at hA hval hsz1
  obtain⟨rfl,rfl⟩:=trodVars_none hV
  obtain⟨v0,vs0,d0,ds0,p0,q0,ha0,hd0,-,t0,hA⟩:=trodAll_cons hA
  obtain⟨hvs,hds,-⟩:=trodAll_nil hA
  have hargs:args=#[v0]:=by
    have:args.toList=[v0]:=by rw[ha0,hvs]
    cases args;simp only at this;rw[this]
  subst hargs
  have hds0:ds=[d0]:=by rw[hd0,hds]
  subst hds0
  have hsz2:(DataW.weightsEach Try.prog [22] [d0]).all (·≤reachBytes)=true:=hsz1
  have hw0:∀n∈d0.weights Try.prog 22,n≤reachBytes:=fun n hn=>by simpa using List.all_eq_true.1 hsz2 n (DataW.weights_mem_each (ts:=[22]) (ds:=[d0]) (j:=0) (t:=22) (d:=d0) rfl rfl n hn)
  obtain⟨x0,r0,wf0⟩:=xL op_22 t0 hw0
  obtain⟨a0,n0,k0,rfl⟩:=okWide_slice Try.underlying22 (hval 0 22 _ rfl rfl)
  obtain⟨A0,c0,r0,h0⟩:=r0
  have e0:=hJ (v:=.slice a0 n0 k0) rfl r0
  rw[e0]
  refine kA (R:=fun v w'=>v=.bool (pB x0)∧Ex W w') (FI x0 (iB h0 gU) (MK wf0)) ?_
  rintro v W' ⟨rfl,he⟩
  rw[qI x0,←e0]
  exact uL laid (by kernel_rfl) rfl rfl Try.underlying4 (fun _=>rfl) hW' he
theorem proved:Rows.FnPutBackSaid:=
  OpenClaim.holds_of_wide 5 Try.f5 rfl rfl rfl rfl rfl rfl rfl ⟨rfl,rfl,rfl,rfl,rfl⟩ rfl rfl rfl rfl rfl (by kernel_rfl) Try.func5 (by kernel_rfl)
    (of_decide_eq_true (by kernel_rfl)) (by unfold Func.isWrapper;first | (rw[if_pos (by decide +kernel)];kernel_rfl) | (rw[if_neg (by decide +kernel)];exact⟨rfl,rfl⟩))
    (fun os started H enc _=>lifted os started H enc)
end Go.Proofs.Ytikkoidgamlgnaa.lawFnPutBack
