/- laws.FnExactReadTable returns true, whatever its arguments are, and leaves what its arguments read as they were. Conditions: those of the given statement, and no more. -/
import Derived.Test.YtdknedcbonflgaaDoorRows
import Derived.Test.YtdknedcbonflgaaDoorChecked
import Derived.Test.YtdknedcbonflgaaDoorCards
import Derived.Test.YtdknedcbonflgaaDoorTie
import Derived.MakeChecks
import Derived.Lay
import Derived.LaidOnce
import Derived.SevenTiedAt
import Derived.Stop.LaidErr
import Derived.Test.YtdknedcbonflgaaDoorReadTableC2
set_option linter.unusedVariables false
set_option linter.unusedSimpArgs false
namespace Go.Proofs.YtdknedcbonflgaaDoor.lawReadTable
open Go.ChangeShapes Go.WideShapes Go.ChangeAt Go.RowKit Go.X Go.Proofs.YtdknedcbonflgaaDoor
theorem own:ownKnob Tryd.prog.godebug=none:=by kernel_rfl
theorem laid:laidOutB Tryd.prog=true:=by kernel_rfl
theorem op_9:aK Tryd.prog 9 (RF kC) CK:=ZH Tryd.underlying9
theorem errStar : "*" ++ "errors.errorString" = "*errors.errorString" := by decide
theorem errRow(u:TypeId)(h:Tryd.prog.typeName? 3 u=some "*errors.errorString"):u=107:=
  typeName_ptr_named (nm := "errors.errorString") (by rw[errStar];kernel_rfl) (by kernel_rfl) (by decide) u (by rw[errStar];exact h)
theorem errSyntax{W:World}(h:laidMetH Tryd.prog Rows.fnExactReadTableRow.laid W):JF 1 W:=by
  rw[MakeChecks.laidMetH_plain _ _ _ (by kernel_rfl)]at h
  have h:=laidMet.tail h
  have h:=laidMet.tail h
  have h:=laidMet.tail h
  have h:=laidMet.tail h
  have h:=laidMet.tail h
  obtain⟨a,s,hv,-⟩:=laid_sentinel (g:=1) (ti:=55) (te:=109) (ts:=9) h (by kernel_rfl) (by kernel_rfl) Tryd.underlying55 errRow Tryd.underlying107 Tryd.underlying109 rfl rfl Tryd.underlying9 (by kernel_rfl) (by kernel_rfl)
  exact⟨_,(World.var?_cell (g:=1) (by kernel_rfl) hv 0).trans rfl,.inr ⟨_,_,rfl⟩⟩
theorem errRange{W:World}(h:laidMetH Tryd.prog Rows.fnExactReadTableRow.laid W):JF 2 W:=by
  rw[MakeChecks.laidMetH_plain _ _ _ (by kernel_rfl)]at h
  have h:=laidMet.tail h
  have h:=laidMet.tail h
  have h:=laidMet.tail h
  have h:=laidMet.tail h
  obtain⟨a,s,hv,-⟩:=laid_sentinel (g:=2) (ti:=55) (te:=109) (ts:=9) h (by kernel_rfl) (by kernel_rfl) Tryd.underlying55 errRow Tryd.underlying107 Tryd.underlying109 rfl rfl Tryd.underlying9 (by kernel_rfl) (by kernel_rfl)
  exact⟨_,(World.var?_cell (g:=2) (by kernel_rfl) hv 0).trans rfl,.inr ⟨_,_,rfl⟩⟩
theorem gbOf{W:World}(h:laidMetH Tryd.prog Rows.fnExactReadTableRow.laid W):GB 1 2 W:=⟨errSyntax h,errRange h⟩
set_option maxRecDepth 100000 in
set_option maxHeartbeats 2000000 in
theorem lifted(os:Os)(started:os.Started)(H:Type)(enc:TypeId×Value→H) :
    ReturnsInHanded {} Tryd.checked os 3 .any (fun w args=>(Rows.fnExactReadTableSpec.pre enc Tryd.prog Tryd.f3 [] false w args∧laidMetH Tryd.prog Rows.fnExactReadTableRow.laid w)∧sizedMet enc Tryd.prog Tryd.f3 (OpenSpec.ofChange Rows.fnExactReadTableSpec) false w args) (Rows.fnExactReadTableSpec.post enc Tryd.prog Tryd.f3 false true false false):=by
  refine returnsInHanded_of_change_and (C:=Tryd.checked) (X:=fun w _=>laidMetH Tryd.prog Rows.fnExactReadTableRow.laid w) (fun _ _ _ hh h=>h.of_heap hh) own started (by kernel_rfl) Tryd.func3
    (ChangeSpec.witness_shaped (enc:=enc) (C:=Tryd.checked) (os:=os) (X:=fun w _=>laidMetH Tryd.prog Rows.fnExactReadTableRow.laid w) false (World.laidAll Tryd.prog os Rows.fnExactReadTableRow.laid) #[.string ByteArray.empty] 8 (World.laidAll_os _ _ _)
      (World.shaped_of_ZipB (by kernel_rfl) (by kernel_rfl)) (by kernel_rfl) (by kernel_rfl) (by kernel_rfl)
      (by rw[MakeChecks.laidMetH_plain _ _ _ (by kernel_rfl)];exact laidMet_laidAll _ (by kernel_rfl) (by kernel_rfl))) ?_
  intro W base args ds gs before hval0 hW _ hsz0 hL0 _
  have hval:∀(j:Nat) t v,Tryd.f3.params[j]? = some t→args[j]? = some v→Value.okWide Tryd.prog W .any base t v:=hval0
  have hsz1:(DataW.weightsEach Tryd.prog (Tryd.f3.params.toList++Rows.fnExactReadTableSpec.plain.varTypes Tryd.prog) (ds++gs)).all (·≤reachBytes)=true:=hsz0
  have hW':=hW
  obtain⟨p,q,hA0,hV,-,-,-⟩:=hW
  have hA:DataW.TrodAll enc Tryd.prog W 0 (fun _=>true) true Tryd.f3.params.toList args.toList ds p:=hA0
  rw[Tryd.params3]at hA hval hsz1
  obtain⟨rfl,rfl⟩:=trodVars_none hV
  obtain⟨v0,vs0,d0,ds0,p0,q0,ha0,hd0,-,t0,hA⟩:=trodAll_cons hA
  obtain⟨hvs,hds,-⟩:=trodAll_nil hA
  have hargs:args=#[v0]:=by
    have:args.toList=[v0]:=by rw[ha0,hvs]
    cases args;simp only at this;rw[this]
  subst hargs
  have hds0:ds=[d0]:=by rw[hd0,hds]
  subst hds0
  have hsz2:(DataW.weightsEach Tryd.prog [9] [d0]).all (·≤reachBytes)=true:=hsz1
  have hw0:∀n∈d0.weights Tryd.prog 9,n≤reachBytes:=fun n hn=>by simpa using List.all_eq_true.1 hsz2 n (DataW.weights_mem_each (ts:=[9]) (ds:=[d0]) (j:=0) (t:=9) (d:=d0) rfl rfl n hn)
  obtain⟨x0,r0,wf0⟩:=nK op_9 t0 hw0
  obtain⟨n0,rfl⟩:=okWide_string Tryd.underlying9 (hval 0 9 _ rfl rfl)
  have e0:=YH (v:=.string n0) rfl r0
  rw[e0]
  refine tA (R:=fun v w'=>v=.bool (XA x0)∧Ex W w') (dF x0 wf0 (gbOf hL0)) ?_
  rintro v W' ⟨rfl,he⟩
  rw[bH x0 wf0,←e0]
  exact kK laid (by kernel_rfl) rfl rfl Tryd.underlying4 (fun _=>rfl) hW' he
theorem row_holds:Rows.FnExactReadTableSaid:=
  OpenClaim.holds_of_wide 3 Tryd.f3 rfl rfl rfl rfl rfl rfl rfl ⟨rfl,rfl,rfl,rfl,rfl⟩ rfl rfl rfl rfl rfl (by kernel_rfl) Tryd.func3 (by kernel_rfl)
    (of_decide_eq_true (by kernel_rfl)) (by unfold Func.isWrapper;first | (rw[if_pos (by decide +kernel)];kernel_rfl) | (rw[if_neg (by decide +kernel)];exact⟨rfl,rfl⟩))
    (fun os started H enc _=>lifted os started H enc)
theorem proved:Rows.FnExactReadTableCardSaid:=
  Claim7.holds_tied_plain_at .later [] [.data,.data,.data,.data,.sentinel,.sentinel,.pinned] true (true, "02e9b5cc8f1331a01f8ccbc4a6242ccd45a7f902086857bfe017c1b8879473d6") true row_holds (fun _ h=>by cases h) (by kernel_rfl) (fun _ h=>by cases h) fnExactReadTable_row_tie rfl ⟨rfl,rfl⟩ (by kernel_rfl) rfl
    (fun f fn hf hfn=>by
      obtain rfl:f=3:=Option.some.inj ((show Tryd.prog.funcNamed "loop.example/g00850/laws.FnExactReadTable" = some 3 by kernel_rfl).symm.trans hf) |>.symm
      obtain rfl:fn=Tryd.f3:=(Option.some.inj (Tryd.func3.symm.trans hfn)).symm
      exact⟨by kernel_rfl,fun j t ht=>by
        rw[Tryd.params3]at ht
        have hm:t∈[9]:=by simpa using Array.mem_of_getElem? ht
        have hall:([9].all fun u=>!Tryd.prog.wantsStandIn u)=true:=by kernel_rfl
        exact(show Tryd.prog.wantsStandIn t=false by simpa using List.all_eq_true.1 hall t hm)⟩)
    (by kernel_rfl)
end Go.Proofs.YtdknedcbonflgaaDoor.lawReadTable
