/- laws.FnPieces returns true, whatever its arguments are, and leaves what its arguments read as they were. Conditions: those of the given statement, and no more. -/
import Derived.Test.YtjgimhdmpcincaaGreatDoorRows
import Derived.Test.YtjgimhdmpcincaaGreatDoorChecked
import Derived.Test.YtjgimhdmpcincaaGreatDoorCards
import Derived.Test.YtjgimhdmpcincaaGreatDoorTie
import Derived.MakeChecks
import Derived.Lay
import Derived.LaidOnce
import Derived.SevenTiedAt
import Derived.Stop.LaidErr
import Derived.Lib.LaidTab
import Derived.Test.YtjgimhdmpcincaaGreatDoorFnPiecesC7
set_option linter.unusedVariables false
set_option linter.unusedSimpArgs false
namespace Go.Proofs.YtjgimhdmpcincaaGreatDoor.lawFnPieces
open Go.ChangeShapes Go.WideShapes Go.ChangeAt Go.RowKit Go.X Go.Proofs.YtjgimhdmpcincaaGreatDoor
theorem own:ownKnob Tryz.prog.godebug=none:=by kernel_rfl
theorem laid:laidOutB Tryz.prog=true:=by kernel_rfl
theorem op_5:HS Tryz.prog 5 (RF iK) VY:=IY Tryz.underlying5
theorem op_22:HS Tryz.prog 22 (RL (RF iK) 1) (RZ VY):=AV (by_:=1) Tryz.underlying22 (by kernel_rfl) (by kernel_rfl) rfl (nb rfl) op_5
theorem errStar : "*" ++ "errors.errorString" = "*errors.errorString" := by decide
theorem errRow(u:TypeId)(h:Tryz.prog.typeName? 3 u=some "*errors.errorString"):u=220:=
  typeName_ptr_named (nm := "errors.errorString") (by rw[errStar];kernel_rfl) (by kernel_rfl) (by decide) u (by rw[errStar];exact h)
theorem errSyntax{W:World}(h:laidMetH Tryz.prog Rows.fnPiecesRow.laid W):HO 4 W:=by
  rw[MakeChecks.laidMetH_plain _ _ _ (by kernel_rfl)]at h
  have h:=laidMet.tail h
  have h:=laidMet.tail h
  have h:=laidMet.tail h
  have h:=laidMet.tail h
  have h:=laidMet.tail h
  obtain⟨a,s,hv,-⟩:=laid_sentinel (g:=4) (ti:=154) (te:=222) (ts:=9) h (by kernel_rfl) (by kernel_rfl) Tryz.underlying154 errRow Tryz.underlying220 Tryz.underlying222 rfl rfl Tryz.underlying9 (by kernel_rfl) (by kernel_rfl)
  exact⟨_,(World.var?_cell (g:=4) (by kernel_rfl) hv 0).trans rfl,.inr ⟨_,_,rfl⟩⟩
theorem errRange{W:World}(h:laidMetH Tryz.prog Rows.fnPiecesRow.laid W):HO 5 W:=by
  rw[MakeChecks.laidMetH_plain _ _ _ (by kernel_rfl)]at h
  have h:=laidMet.tail h
  have h:=laidMet.tail h
  have h:=laidMet.tail h
  have h:=laidMet.tail h
  obtain⟨a,s,hv,-⟩:=laid_sentinel (g:=5) (ti:=154) (te:=222) (ts:=9) h (by kernel_rfl) (by kernel_rfl) Tryz.underlying154 errRow Tryz.underlying220 Tryz.underlying222 rfl rfl Tryz.underlying9 (by kernel_rfl) (by kernel_rfl)
  exact⟨_,(World.var?_cell (g:=5) (by kernel_rfl) hv 0).trans rfl,.inr ⟨_,_,rfl⟩⟩
theorem tabTen{W:World}(h:laidMetH Tryz.prog Rows.fnPiecesRow.laid W):ZX 3 (p10.map fun z=>Value.int .u64 z).toArray W:=by
  rw[MakeChecks.laidMetH_plain _ _ _ (by kernel_rfl)]at h
  have h:=laidMet.tail h
  have h:=laidMet.tail h
  have hg:Tryz.prog.globalNamed "internal/strconv.uint64pow10" = some 3:=by kernel_rfl
  have ht:Lib.TabIs Tryz.prog W "internal/strconv.uint64pow10" .u64 Lib.pow10Tab:=Lib.tabIs_of_head (g:=3) (t:=210) (e:=47) (n:=20) hg (by kernel_rfl) Tryz.underlying210 Tryz.underlying47 (by kernel_rfl) (by kernel_rfl) h
  unfold Lib.TabIs World.var? at ht
  rw[hg,Option.bind_some]at ht
  revert ht
  cases hc:W.heap[3]? with
  | none=>intro ht;cases ht
  | some o=>
    cases o with
    | cells cs t z=>intro ht;obtain rfl:=Option.some.inj ht;exact⟨t,z,hc⟩
    | _=>intro ht;cases ht
theorem gbOf{W:World}(h:laidMetH Tryz.prog Rows.fnPiecesRow.laid W):GT 4 5 3 W:=⟨⟨errSyntax h,errRange h⟩,tabTen h⟩
set_option maxRecDepth 100000 in
set_option maxHeartbeats 2000000 in
theorem lifted(os:Os)(started:os.Started)(H:Type)(enc:TypeId×Value→H) :
    ReturnsInHanded {} Tryz.checked os 3 .any (fun w args=>(Rows.fnPiecesSpec.pre enc Tryz.prog Tryz.f3 [] false w args∧laidMetH Tryz.prog Rows.fnPiecesRow.laid w)∧sizedMet enc Tryz.prog Tryz.f3 (OpenSpec.ofChange Rows.fnPiecesSpec) false w args) (Rows.fnPiecesSpec.post enc Tryz.prog Tryz.f3 false true false false):=by
  refine returnsInHanded_of_change_and (C:=Tryz.checked) (X:=fun w _=>laidMetH Tryz.prog Rows.fnPiecesRow.laid w) (fun _ _ _ hh h=>h.of_heap hh) own started (by kernel_rfl) Tryz.func3
    (ChangeSpec.witness_shaped (enc:=enc) (C:=Tryz.checked) (os:=os) (X:=fun w _=>laidMetH Tryz.prog Rows.fnPiecesRow.laid w) false (World.laidAll Tryz.prog os Rows.fnPiecesRow.laid) #[.slice none 0 0,.slice none 0 0] 8 (World.laidAll_os _ _ _)
      (World.shaped_of_ZipB (by kernel_rfl) (by kernel_rfl)) (by kernel_rfl) (by kernel_rfl) (by kernel_rfl)
      (by rw[MakeChecks.laidMetH_plain _ _ _ (by kernel_rfl)];exact laidMet_laidAll _ (by kernel_rfl) (by kernel_rfl))) ?_
  intro W base args ds gs before hval0 hW _ hsz0 hL0 _
  have hval:∀(j:Nat) t v,Tryz.f3.params[j]? = some t→args[j]? = some v→Value.okWide Tryz.prog W .any base t v:=hval0
  have hsz1:(DataW.weightsEach Tryz.prog (Tryz.f3.params.toList++Rows.fnPiecesSpec.plain.varTypes Tryz.prog) (ds++gs)).all (·≤reachBytes)=true:=hsz0
  have hW':=hW
  obtain⟨p,q,hA0,hV,-,-,-⟩:=hW
  have hA:DataW.TrodAll enc Tryz.prog W 0 (fun _=>true) true Tryz.f3.params.toList args.toList ds p:=hA0
  rw[Tryz.params3]at hA hval hsz1
  obtain⟨rfl,rfl⟩:=trodVars_none hV
  obtain⟨v0,vs0,d0,ds0,p0,q0,ha0,hd0,-,t0,hA⟩:=trodAll_cons hA
  obtain⟨v1,vs1,d1,ds1,p1,q1,ha1,hd1,-,t1,hA⟩:=trodAll_cons hA
  obtain⟨hvs,hds,-⟩:=trodAll_nil hA
  have hargs:args=#[v0,v1]:=by
    have:args.toList=[v0,v1]:=by rw[ha0,ha1,hvs]
    cases args;simp only at this;rw[this]
  subst hargs
  have hds0:ds=[d0,d1]:=by rw[hd0,hd1,hds]
  subst hds0
  have hsz2:(DataW.weightsEach Tryz.prog [22,22] [d0,d1]).all (·≤reachBytes)=true:=hsz1
  have hw0:∀n∈d0.weights Tryz.prog 22,n≤reachBytes:=fun n hn=>by simpa using List.all_eq_true.1 hsz2 n (DataW.weights_mem_each (ts:=[22,22]) (ds:=[d0,d1]) (j:=0) (t:=22) (d:=d0) rfl rfl n hn)
  obtain⟨x0,r0,wf0⟩:=zV op_22 t0 hw0
  obtain⟨a0,n0,k0,rfl⟩:=okWide_slice Tryz.underlying22 (hval 0 22 _ rfl rfl)
  obtain⟨A0,c0,r0,h0⟩:=r0
  have e0:=HP (v:=.slice a0 n0 k0) rfl r0
  rw[e0]
  have hw1:∀n∈d1.weights Tryz.prog 22,n≤reachBytes:=fun n hn=>by simpa using List.all_eq_true.1 hsz2 n (DataW.weights_mem_each (ts:=[22,22]) (ds:=[d0,d1]) (j:=1) (t:=22) (d:=d1) rfl rfl n hn)
  obtain⟨x1,r1,wf1⟩:=zV op_22 t1 hw1
  obtain⟨a1,n1,k1,rfl⟩:=okWide_slice Tryz.underlying22 (hval 1 22 _ rfl rfl)
  obtain⟨A1,c1,r1,h1⟩:=r1
  have e1:=HP (v:=.slice a1 n1 k1) rfl r1
  rw[e1]
  refine lA (R:=fun v w'=>v=.bool (OB x0 x1)∧Ex W w') (ET x0 x1 (zA h0 gU) (zA h1 gU) (SS wf0) (SS wf1) (gbOf hL0)) ?_
  rintro v W' ⟨rfl,he⟩
  rw[DS x0 x1,←e0,←e1]
  exact AY laid (by kernel_rfl) rfl rfl Tryz.underlying4 (fun _=>rfl) hW' he
theorem row_holds:Rows.FnPiecesSaid:=
  OpenClaim.holds_of_wide 3 Tryz.f3 rfl rfl rfl rfl rfl rfl rfl ⟨rfl,rfl,rfl,rfl,rfl⟩ rfl rfl rfl rfl rfl (by kernel_rfl) Tryz.func3 (by kernel_rfl)
    (of_decide_eq_true (by kernel_rfl)) (by unfold Func.isWrapper;first | (rw[if_pos (by decide +kernel)];kernel_rfl) | (rw[if_neg (by decide +kernel)];exact⟨rfl,rfl⟩))
    (fun os started H enc _=>lifted os started H enc)
theorem proved:Rows.FnPiecesCardSaid:=
  Claim7.holds_tied_plain_at .later [] [.data,.data,.data,.data,.sentinel,.sentinel,.pinned] true (true, "dd778580d1f6d4bb5d256b705514837e1d0b7c6f69e8b0a8487244074d622e0d") true row_holds (fun _ h=>by cases h) (by kernel_rfl) (fun _ h=>by cases h) fnPieces_row_tie rfl ⟨rfl,rfl⟩ (by kernel_rfl) rfl
    (fun f fn hf hfn=>by
      obtain rfl:f=3:=Option.some.inj ((show Tryz.prog.funcNamed "loop.example/g00850/laws.FnPieces" = some 3 by kernel_rfl).symm.trans hf) |>.symm
      obtain rfl:fn=Tryz.f3:=(Option.some.inj (Tryz.func3.symm.trans hfn)).symm
      exact⟨by kernel_rfl,fun j t ht=>by
        rw[Tryz.params3]at ht
        have hm:t∈[22,22]:=by simpa using Array.mem_of_getElem? ht
        have hall:([22,22].all fun u=>!Tryz.prog.wantsStandIn u)=true:=by kernel_rfl
        exact(show Tryz.prog.wantsStandIn t=false by simpa using List.all_eq_true.1 hall t hm)⟩)
    (by kernel_rfl)
end Go.Proofs.YtjgimhdmpcincaaGreatDoor.lawFnPieces
