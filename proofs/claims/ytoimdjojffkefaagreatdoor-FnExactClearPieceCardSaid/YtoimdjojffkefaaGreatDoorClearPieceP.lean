/- laws.FnExactClearPiece returns true, whatever its arguments are, and leaves what its arguments read as they were. Conditions: those of the given statement, and no more. -/
import Derived.Test.YtoimdjojffkefaaGreatDoorRows
import Derived.Test.YtoimdjojffkefaaGreatDoorChecked
import Derived.Test.YtoimdjojffkefaaGreatDoorCards
import Derived.Test.YtoimdjojffkefaaGreatDoorTie
import Derived.MakeChecks
import Derived.Lay
import Derived.LaidOnce
import Derived.SevenTiedAt
import Derived.Stop.LaidErr
import Derived.Lib.LaidTab
import Derived.Test.YtoimdjojffkefaaGreatDoorClearPieceC4
set_option linter.unusedVariables false
set_option linter.unusedSimpArgs false
namespace Go.Proofs.YtoimdjojffkefaaGreatDoor.lawClearPiece
open Go.ChangeShapes Go.WideShapes Go.ChangeAt Go.RowKit Go.X Go.Proofs.YtoimdjojffkefaaGreatDoor
theorem own:ownKnob Tryz.prog.godebug=none:=by kernel_rfl
theorem laid:laidOutB Tryz.prog=true:=by kernel_rfl
theorem op_9:bJ Tryz.prog 9 (RF JC) GM:=aQ Tryz.underlying9
theorem op_22:bJ Tryz.prog 22 (RL (RF JC) 1) (CR GM):=qL (by_:=16) Tryz.underlying22 (by kernel_rfl) (by kernel_rfl) rfl (nb rfl) op_9
theorem op_3:bJ Tryz.prog 3 (RF WV) zR:=JT Tryz.underlying3
theorem op_106:bJ Tryz.prog 106 (RF ZE) qO:=by
  intro H enc w base spare held fuel cs x h hw
  obtain⟨xs,n,-,hx,hl,hn,hf⟩:=DataW.trod_struct Tryz.underlying106 h
  subst hx
  have hl0:cs.length=3:=hl.trans (by kernel_rfl)
  obtain⟨y0,r0,w0⟩:=CG op_9 Tryz.underlying106 hw hn hf 0 (o:=0) (n:=1) rfl rfl rfl (by kernel_rfl)
  obtain⟨y1,r1,w1⟩:=CG op_3 Tryz.underlying106 hw hn hf 1 (o:=1) (n:=1) rfl rfl rfl (by kernel_rfl)
  obtain⟨y2,r2,w2⟩:=CG op_3 Tryz.underlying106 hw hn hf 2 (o:=2) (n:=1) rfl rfl rfl (by kernel_rfl)
  exact⟨⟨y0,y1,y2⟩,pU r0 (pU r1 (pU r2 (xN hl0))),⟨w0,w1,w2⟩⟩
theorem op_23:bJ Tryz.prog 23 (RL (RF ZE) 3) (CR qO):=qL (by_:=32) Tryz.underlying23 (by kernel_rfl) (by kernel_rfl) rfl (nb rfl) op_106
theorem op_25:bJ Tryz.prog 25 zP wL:=by
  intro H enc w base spare held fuel cs x h hw
  obtain⟨xs,n,-,hx,hl,hn,hf⟩:=DataW.trod_struct Tryz.underlying25 h
  subst hx
  have hl0:cs.length=3:=hl.trans (by kernel_rfl)
  obtain⟨y0,r0,w0⟩:=CG op_9 Tryz.underlying25 hw hn hf 0 (o:=0) (n:=1) rfl rfl rfl (by kernel_rfl)
  obtain⟨y1,r1,w1⟩:=CG op_22 Tryz.underlying25 hw hn hf 1 (o:=1) (n:=1) rfl rfl rfl (by kernel_rfl)
  obtain⟨y2,r2,w2⟩:=CG op_23 Tryz.underlying25 hw hn hf 2 (o:=2) (n:=1) rfl rfl rfl (by kernel_rfl)
  obtain⟨A1,c1,r1,h1⟩:=r1
  obtain⟨A2,c2,r2,h2⟩:=r2
  exact⟨⟨y0,y1,y2⟩,⟨A1,c1,A2,c2,pU r0 (pU r1 (pU r2 (xN hl0))),h1,h2⟩,⟨w0,w1,w2⟩⟩
theorem op_4:bJ Tryz.prog 4 (RF AK) tX:=nS Tryz.underlying4
theorem op_71:bJ Tryz.prog 71 (RF PA) oK:=by
  intro H enc w base spare held fuel cs x h hw
  obtain⟨xs,n,-,hx,hl,hn,hf⟩:=DataW.trod_struct Tryz.underlying71 h
  subst hx
  have hl0:cs.length=3:=hl.trans (by kernel_rfl)
  obtain⟨y0,r0,w0⟩:=CG op_9 Tryz.underlying71 hw hn hf 0 (o:=0) (n:=1) rfl rfl rfl (by kernel_rfl)
  obtain⟨y1,r1,w1⟩:=CG op_9 Tryz.underlying71 hw hn hf 1 (o:=1) (n:=1) rfl rfl rfl (by kernel_rfl)
  obtain⟨y2,r2,w2⟩:=CG op_4 Tryz.underlying71 hw hn hf 2 (o:=2) (n:=1) rfl rfl rfl (by kernel_rfl)
  exact⟨⟨y0,y1,y2⟩,pU r0 (pU r1 (pU r2 (xN hl0))),⟨w0,w1⟩⟩
theorem op_26:bJ Tryz.prog 26 (RL (RF PA) 3) (CR oK):=qL (by_:=40) Tryz.underlying26 (by kernel_rfl) (by kernel_rfl) rfl (nb rfl) op_71
theorem op_54:bJ Tryz.prog 54 (RF tU) zN:=by
  intro H enc w base spare held fuel cs x h hw
  obtain⟨xs,n,-,hx,hl,hn,hf⟩:=DataW.trod_struct Tryz.underlying54 h
  subst hx
  have hl0:cs.length=2:=hl.trans (by kernel_rfl)
  obtain⟨y0,r0,w0⟩:=CG op_9 Tryz.underlying54 hw hn hf 0 (o:=0) (n:=1) rfl rfl rfl (by kernel_rfl)
  obtain⟨y1,r1,w1⟩:=CG op_4 Tryz.underlying54 hw hn hf 1 (o:=1) (n:=1) rfl rfl rfl (by kernel_rfl)
  exact⟨⟨y0,y1⟩,pU r0 (pU r1 (xN hl0)),w0⟩
theorem errStar : "*" ++ "errors.errorString" = "*errors.errorString" := by decide
theorem errRow(u:TypeId)(h:Tryz.prog.typeName? 3 u=some "*errors.errorString"):u=298:=
  typeName_ptr_named (nm := "errors.errorString") (by rw[errStar];kernel_rfl) (by kernel_rfl) (by decide) u (by rw[errStar];exact h)
theorem errSyntax{W:World}(h:laidMetH Tryz.prog Rows.fnExactClearPieceRow.laid W):PL 4 W:=by
  rw[MakeChecks.laidMetH_plain _ _ _ (by kernel_rfl)]at h
  have h:=laidMet.tail h
  have h:=laidMet.tail h
  have h:=laidMet.tail h
  have h:=laidMet.tail h
  obtain⟨a,s,hv,-⟩:=laid_sentinel (g:=4) (ti:=209) (te:=300) (ts:=9) h (by kernel_rfl) (by kernel_rfl) Tryz.underlying209 errRow Tryz.underlying298 Tryz.underlying300 rfl rfl Tryz.underlying9 (by kernel_rfl) (by kernel_rfl)
  exact⟨_,(World.var?_cell (g:=4) (by kernel_rfl) hv 0).trans rfl,.inr ⟨_,_,rfl⟩⟩
theorem errRange{W:World}(h:laidMetH Tryz.prog Rows.fnExactClearPieceRow.laid W):PL 5 W:=by
  rw[MakeChecks.laidMetH_plain _ _ _ (by kernel_rfl)]at h
  have h:=laidMet.tail h
  have h:=laidMet.tail h
  have h:=laidMet.tail h
  obtain⟨a,s,hv,-⟩:=laid_sentinel (g:=5) (ti:=209) (te:=300) (ts:=9) h (by kernel_rfl) (by kernel_rfl) Tryz.underlying209 errRow Tryz.underlying298 Tryz.underlying300 rfl rfl Tryz.underlying9 (by kernel_rfl) (by kernel_rfl)
  exact⟨_,(World.var?_cell (g:=5) (by kernel_rfl) hv 0).trans rfl,.inr ⟨_,_,rfl⟩⟩
theorem tabTen{W:World}(h:laidMetH Tryz.prog Rows.fnExactClearPieceRow.laid W):lU 1 (p10.map fun z=>Value.int .u64 z).toArray W:=by
  rw[MakeChecks.laidMetH_plain _ _ _ (by kernel_rfl)]at h
  have h:=laidMet.tail h
  have h:=laidMet.tail h
  have hg:Tryz.prog.globalNamed "internal/strconv.uint64pow10" = some 1:=by kernel_rfl
  have ht:Lib.TabIs Tryz.prog W "internal/strconv.uint64pow10" .u64 Lib.pow10Tab:=Lib.tabIs_of_head (g:=1) (t:=284) (e:=254) (n:=20) hg (by kernel_rfl) Tryz.underlying284 Tryz.underlying254 (by kernel_rfl) (by kernel_rfl) h
  unfold Lib.TabIs World.var? at ht
  rw[hg,Option.bind_some]at ht
  revert ht
  cases hc:W.heap[1]? with
  | none=>intro ht;cases ht
  | some o=>
    cases o with
    | cells cs t z=>intro ht;obtain rfl:=Option.some.inj ht;exact⟨t,z,hc⟩
    | _=>intro ht;cases ht
theorem gbOf{W:World}(h:laidMetH Tryz.prog Rows.fnExactClearPieceRow.laid W):GT 4 5 1 W:=⟨⟨errSyntax h,errRange h⟩,tabTen h⟩
set_option maxRecDepth 100000 in
set_option maxHeartbeats 2000000 in
theorem lifted(os:Os)(started:os.Started)(H:Type)(enc:TypeId×Value→H) :
    ReturnsInHanded {} Tryz.checked os 4 .any (fun w args=>(Rows.fnExactClearPieceSpec.pre enc Tryz.prog Tryz.f4 [] false w args∧laidMetH Tryz.prog Rows.fnExactClearPieceRow.laid w)∧sizedMet enc Tryz.prog Tryz.f4 (OpenSpec.ofChange Rows.fnExactClearPieceSpec) false w args) (Rows.fnExactClearPieceSpec.post enc Tryz.prog Tryz.f4 false true false false):=by
  refine returnsInHanded_of_change_and (C:=Tryz.checked) (X:=fun w _=>laidMetH Tryz.prog Rows.fnExactClearPieceRow.laid w) (fun _ _ _ hh h=>h.of_heap hh) own started (by kernel_rfl) Tryz.func4
    (ChangeSpec.witness_shaped (enc:=enc) (C:=Tryz.checked) (os:=os) (X:=fun w _=>laidMetH Tryz.prog Rows.fnExactClearPieceRow.laid w) false (World.laidAll Tryz.prog os Rows.fnExactClearPieceRow.laid) #[.agg #[.string ByteArray.empty,.slice none 0 0,.slice none 0 0],.string ByteArray.empty,.slice none 0 0,.agg #[.string ByteArray.empty,.bool (false)],.int .i64 (0)] 8 (World.laidAll_os _ _ _)
      (World.shaped_of_ZipB (by kernel_rfl) (by kernel_rfl)) (by kernel_rfl) (by kernel_rfl) (by kernel_rfl)
      (by rw[MakeChecks.laidMetH_plain _ _ _ (by kernel_rfl)];exact laidMet_laidAll _ (by kernel_rfl) (by kernel_rfl))) ?_
  intro W base args ds gs before hval0 hW _ hsz0 hL0 _
  have hval:∀(j:Nat) t v,Tryz.f4.params[j]? = some t→args[j]? = some v→Value.okWide Tryz.prog W .any base t v:=hval0
  have hsz1:(DataW.weightsEach Tryz.prog (Tryz.f4.params.toList++Rows.fnExactClearPieceSpec.plain.varTypes Tryz.prog) (ds++gs)).all (·≤reachBytes)=true:=hsz0
  have hW':=hW
  obtain⟨p,q,hA0,hV,-,-,-⟩:=hW
  have hA:DataW.TrodAll enc Tryz.prog W 0 (fun _=>true) true Tryz.f4.params.toList args.toList ds p:=hA0
  rw[Tryz.params4]at hA hval hsz1
  obtain⟨rfl,rfl⟩:=trodVars_none hV
  obtain⟨v0,vs0,d0,ds0,p0,q0,ha0,hd0,-,t0,hA⟩:=trodAll_cons hA
  obtain⟨v1,vs1,d1,ds1,p1,q1,ha1,hd1,-,t1,hA⟩:=trodAll_cons hA
  obtain⟨v2,vs2,d2,ds2,p2,q2,ha2,hd2,-,t2,hA⟩:=trodAll_cons hA
  obtain⟨v3,vs3,d3,ds3,p3,q3,ha3,hd3,-,t3,hA⟩:=trodAll_cons hA
  obtain⟨v4,vs4,d4,ds4,p4,q4,ha4,hd4,-,t4,hA⟩:=trodAll_cons hA
  obtain⟨hvs,hds,-⟩:=trodAll_nil hA
  have hargs:args=#[v0,v1,v2,v3,v4]:=by
    have:args.toList=[v0,v1,v2,v3,v4]:=by rw[ha0,ha1,ha2,ha3,ha4,hvs]
    cases args;simp only at this;rw[this]
  subst hargs
  have hds0:ds=[d0,d1,d2,d3,d4]:=by rw[hd0,hd1,hd2,hd3,hd4,hds]
  subst hds0
  have hsz2:(DataW.weightsEach Tryz.prog [25,9,26,54,3] [d0,d1,d2,d3,d4]).all (·≤reachBytes)=true:=hsz1
  have hw0:∀n∈d0.weights Tryz.prog 25,n≤reachBytes:=fun n hn=>by simpa using List.all_eq_true.1 hsz2 n (DataW.weights_mem_each (ts:=[25,9,26,54,3]) (ds:=[d0,d1,d2,d3,d4]) (j:=0) (t:=25) (d:=d0) rfl rfl n hn)
  obtain⟨x0,r0,wf0⟩:=pL op_25 t0 hw0
  obtain⟨cs0,rfl,-⟩:=okWide_struct Tryz.underlying25 (hval 0 25 _ rfl rfl)
  obtain⟨A0_1,c0_1,A0_2,c0_2,r0,h0_1,h0_2⟩:=r0
  have e0:=jM r0
  rw[e0]
  have hw1:∀n∈d1.weights Tryz.prog 9,n≤reachBytes:=fun n hn=>by simpa using List.all_eq_true.1 hsz2 n (DataW.weights_mem_each (ts:=[25,9,26,54,3]) (ds:=[d0,d1,d2,d3,d4]) (j:=1) (t:=9) (d:=d1) rfl rfl n hn)
  obtain⟨x1,r1,wf1⟩:=pL op_9 t1 hw1
  obtain⟨n1,rfl⟩:=okWide_string Tryz.underlying9 (hval 1 9 _ rfl rfl)
  have e1:=GK (v:=.string n1) rfl r1
  rw[e1]
  have hw2:∀n∈d2.weights Tryz.prog 26,n≤reachBytes:=fun n hn=>by simpa using List.all_eq_true.1 hsz2 n (DataW.weights_mem_each (ts:=[25,9,26,54,3]) (ds:=[d0,d1,d2,d3,d4]) (j:=2) (t:=26) (d:=d2) rfl rfl n hn)
  obtain⟨x2,r2,wf2⟩:=pL op_26 t2 hw2
  obtain⟨a2,n2,k2,rfl⟩:=okWide_slice Tryz.underlying26 (hval 2 26 _ rfl rfl)
  obtain⟨A2,c2,r2,h2⟩:=r2
  have e2:=GK (v:=.slice a2 n2 k2) rfl r2
  rw[e2]
  have hw3:∀n∈d3.weights Tryz.prog 54,n≤reachBytes:=fun n hn=>by simpa using List.all_eq_true.1 hsz2 n (DataW.weights_mem_each (ts:=[25,9,26,54,3]) (ds:=[d0,d1,d2,d3,d4]) (j:=3) (t:=54) (d:=d3) rfl rfl n hn)
  obtain⟨x3,r3,wf3⟩:=pL op_54 t3 hw3
  obtain⟨cs3,rfl,-⟩:=okWide_struct Tryz.underlying54 (hval 3 54 _ rfl rfl)
  have e3:=jM r3
  rw[e3]
  have hw4:∀n∈d4.weights Tryz.prog 3,n≤reachBytes:=fun n hn=>by simpa using List.all_eq_true.1 hsz2 n (DataW.weights_mem_each (ts:=[25,9,26,54,3]) (ds:=[d0,d1,d2,d3,d4]) (j:=4) (t:=3) (d:=d4) rfl rfl n hn)
  obtain⟨x4,r4,wf4⟩:=pL op_3 t4 hw4
  obtain⟨n4,rfl⟩:=okWide_int Tryz.underlying3 (hval 4 3 _ rfl rfl)
  have e4:=GK (v:=.int .i64 n4) rfl r4
  rw[e4]
  refine nA (R:=fun v w'=>v=.bool (qB x0 x1 x2 x3 x4)∧Ex W w') (NK x0 x1 x2 x3 x4 (GA h0_1 gS) (GA h0_2 gI) (GA h2 gW) wf0 wf1 wf2 wf3 wf4 (gbOf hL0)) ?_
  rintro v W' ⟨rfl,he⟩
  rw[wN x0 x1 x2 x3 x4 wf0 wf1 wf2 wf3 wf4,←e0,←e1,←e2,←e3,←e4]
  exact FU laid (by kernel_rfl) rfl rfl Tryz.underlying4 (fun _=>rfl) hW' he
theorem row_holds:Rows.FnExactClearPieceSaid:=
  OpenClaim.holds_of_wide 4 Tryz.f4 rfl rfl rfl rfl rfl rfl rfl ⟨rfl,rfl,rfl,rfl,rfl⟩ rfl rfl rfl rfl rfl (by kernel_rfl) Tryz.func4 (by kernel_rfl)
    (of_decide_eq_true (by kernel_rfl)) (by unfold Func.isWrapper;first | (rw[if_pos (by decide +kernel)];kernel_rfl) | (rw[if_neg (by decide +kernel)];exact⟨rfl,rfl⟩))
    (fun os started H enc _=>lifted os started H enc)
theorem proved:Rows.FnExactClearPieceCardSaid:=
  Claim7.holds_tied_plain_at .later [] [.data,.data,.data,.sentinel,.sentinel] true (true, "ac72a9922c5f676a7c423145ff510074b9337365fd37c8e20d65a4608882ec46") true row_holds (fun _ h=>by cases h) (by kernel_rfl) (fun _ h=>by cases h) fnExactClearPiece_row_tie rfl ⟨rfl,rfl⟩ (by kernel_rfl) rfl
    (fun f fn hf hfn=>by
      obtain rfl:f=4:=Option.some.inj ((show Tryz.prog.funcNamed "loop.example/g00850/laws.FnExactClearPiece" = some 4 by kernel_rfl).symm.trans hf) |>.symm
      obtain rfl:fn=Tryz.f4:=(Option.some.inj (Tryz.func4.symm.trans hfn)).symm
      exact⟨by kernel_rfl,fun j t ht=>by
        rw[Tryz.params4]at ht
        have hm:t∈[25,9,26,54,3]:=by simpa using Array.mem_of_getElem? ht
        have hall:([25,9,26,54,3].all fun u=>!Tryz.prog.wantsStandIn u)=true:=by kernel_rfl
        exact(show Tryz.prog.wantsStandIn t=false by simpa using List.all_eq_true.1 hall t hm)⟩)
    (by kernel_rfl)
end Go.Proofs.YtoimdjojffkefaaGreatDoor.lawClearPiece
