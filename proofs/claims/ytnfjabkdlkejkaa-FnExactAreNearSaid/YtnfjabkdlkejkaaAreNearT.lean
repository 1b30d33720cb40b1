/- Are Near: the plain forms of the values, and plain models of the functions. -/
import Derived.Test.YtnfjabkdlkejkaaE10
set_option linter.unusedVariables false
set_option linter.unusedSimpArgs false
namespace Go.Proofs.Ytnfjabkdlkejkaa
open Go.RowKit Go.X
structure DClock where
  Off : Int
def d_Clock : DClock := ⟨0⟩
def wf_Clock (x : DClock) : Prop := wfI x.Off
def e_Clock (x : DClock) : List Value := [.int .i64 x.Off]
theorem good_Clock : Gd (RF e_Clock) := RF.good fun _ => rfl
structure DVLease where
  Ver : Int
  Until : Int
def d_VLease : DVLease := ⟨0, 0⟩
def wf_VLease (x : DVLease) : Prop := wfI x.Ver ∧ wfI x.Until
def e_VLease (x : DVLease) : List Value := [.int .i64 x.Ver, .int .i64 x.Until]
theorem good_VLease : Gd (RF e_VLease) := RF.good fun _ => rfl
structure DRenew where
  Now : Int
  Master : DClock
  Clocks : List DClock
  Ver : Int
  Leases : List DVLease
def d_Renew : DRenew := ⟨0, d_Clock, [], 0, []⟩
def wf_Renew (x : DRenew) : Prop := wfI x.Now ∧ wf_Clock x.Master ∧ (wfL wf_Clock) x.Clocks ∧ wfI x.Ver ∧ (wfL wf_VLease) x.Leases
def ok_Renew (x : DRenew) : Prop := (okL okT) x.Clocks ∧ (okL okT) x.Leases
theorem ok_d_Renew : ok_Renew d_Renew := ⟨okL.nil _, okL.nil _⟩
def R_Renew : Rel DRenew := fun w S cs x => ∃ A1 c1 A2 c2, cs = [.int .i64 x.Now, .int .i64 x.Master.Off, .slice A1 x.Clocks.length c1, .int .i64 x.Ver, .slice A2 x.Leases.length c2] ∧ RdS w S (RF e_Clock) 1 A1 x.Clocks.length c1 x.Clocks ∧ RdS w S (RF e_VLease) 2 A2 x.Leases.length c2 x.Leases
theorem good_Renew : Gd R_Renew := ⟨fun ⟨A1, c1, A2, c2, he, h0, h1⟩ hk => ⟨A1, c1, A2, c2, he, RdS.keep good_Clock h0 hk, RdS.keep good_VLease h1 hk⟩, fun ⟨A1, c1, A2, c2, he, h0, h1⟩ hw => ⟨A1, c1, A2, c2, he, RdS.wide good_Clock h0 hw, RdS.wide good_VLease h1 hw⟩, fun ⟨A1, c1, A2, c2, he, h0, h1⟩ => by rw [he]; rfl⟩
structure DSpan where
  Low : Int
  High : Int
def d_Span : DSpan := ⟨0, 0⟩
def wf_Span (x : DSpan) : Prop := wfI x.Low ∧ wfI x.High
def e_Span (x : DSpan) : List Value := [.int .i64 x.Low, .int .i64 x.High]
theorem good_Span : Gd (RF e_Span) := RF.good fun _ => rfl
structure DWrite where
  Key : Str
  Val : Str
  Gone : Bool
def d_Write : DWrite := ⟨[], [], false⟩
def wf_Write (x : DWrite) : Prop := wfS x.Key ∧ wfS x.Val
def ok_Write (x : DWrite) : Prop := okS x.Key ∧ okS x.Val
theorem ok_d_Write : ok_Write d_Write := ⟨ok_d_Str, ok_d_Str⟩
def e_Write (x : DWrite) : List Value := [.string (bs x.Key), .string (bs x.Val), .bool x.Gone]
theorem good_Write : Gd (RF e_Write) := RF.good fun _ => rfl
structure DIdx where
  Name : Str
  Col : Int
  Stage : Int
def d_Idx : DIdx := ⟨[], 0, 0⟩
def wf_Idx (x : DIdx) : Prop := wfS x.Name ∧ wfI x.Col ∧ wfI x.Stage
def ok_Idx (x : DIdx) : Prop := okS x.Name
theorem ok_d_Idx : ok_Idx d_Idx := ok_d_Str
def e_Idx (x : DIdx) : List Value := [.string (bs x.Name), .int .i64 x.Col, .int .i64 x.Stage]
theorem good_Idx : Gd (RF e_Idx) := RF.good fun _ => rfl
def l_eqClock (p_a : DClock) (p_b : DClock) : Bool :=
  bif decide (p_a.Off = p_b.Off) then
    true
  else
    false
def B_l_eqClockS_0 (p_a : List DClock) (p_b : List DClock) (k4 : Nat) : Unit → Out Bool Unit
  | () => bif l_eqClock (p_a.getD k4 d_Clock) (p_b.getD k4 d_Clock) then
      .cont ()
    else
      .ret false
def l_eqClockS (p_a : List DClock) (p_b : List DClock) : Bool :=
  bif decide ((p_a.length : Int) = (p_b.length : Int)) then
    loopE (loopM (B_l_eqClockS_0 p_a p_b) (p_a.length - 0) 0 ()) (fun r => r) (fun _ =>
      true)
  else
    false
def l_eqVLease (p_a : DVLease) (p_b : DVLease) : Bool :=
  bif decide (p_a.Ver = p_b.Ver) then
    bif decide (p_a.Until = p_b.Until) then
      true
    else
      false
  else
    false
def B_l_eqVLeaseS_0 (p_a : List DVLease) (p_b : List DVLease) (k4 : Nat) : Unit → Out Bool Unit
  | () => bif l_eqVLease (p_a.getD k4 d_VLease) (p_b.getD k4 d_VLease) then
      .cont ()
    else
      .ret false
def l_eqVLeaseS (p_a : List DVLease) (p_b : List DVLease) : Bool :=
  bif decide ((p_a.length : Int) = (p_b.length : Int)) then
    loopE (loopM (B_l_eqVLeaseS_0 p_a p_b) (p_a.length - 0) 0 ()) (fun r => r) (fun _ =>
      true)
  else
    false
def l_eqRenew (p_a : DRenew) (p_b : DRenew) : Bool :=
  bif decide (p_a.Now = p_b.Now) then
    bif l_eqClock p_a.Master p_b.Master then
      bif l_eqClockS p_a.Clocks p_b.Clocks then
        bif decide (p_a.Ver = p_b.Ver) then
          bif l_eqVLeaseS p_a.Leases p_b.Leases then
            true
          else
            false
        else
          false
      else
        false
    else
      false
  else
    false
def l_szClockS (p_a : List DClock) (p_left : Int) : Int :=
  bif decide ((IntKind.wrap .i64 (p_left - (p_a.length : Int))) < 0) then
    -1
  else
    IntKind.wrap .i64 (p_left - (p_a.length : Int))
def l_szVLeaseS (p_a : List DVLease) (p_left : Int) : Int :=
  bif decide ((IntKind.wrap .i64 (p_left - (p_a.length : Int))) < 0) then
    -1
  else
    IntKind.wrap .i64 (p_left - (p_a.length : Int))
def l_szRenew (p_a : DRenew) (p_left : Int) : Int :=
  bif decide ((l_szClockS p_a.Clocks p_left) < 0) then
    -1
  else
    bif decide ((l_szVLeaseS p_a.Leases (l_szClockS p_a.Clocks p_left)) < 0) then
      -1
    else
      (l_szVLeaseS p_a.Leases (l_szClockS p_a.Clocks p_left))
def l_toClock (p_a : DClock) : DClock :=
  p_a
def B_l_toClockS_0 (p_a : List DClock) (k10 : Nat) : (List DClock) → Out (List DClock) (List DClock)
  | (x21) => .cont ((x21.set k10 (p_a.getD k10 d_Clock)))
def l_toClockS (p_a : List DClock) : List DClock :=
  loopE (loopM (B_l_toClockS_0 p_a) (p_a.length - 0) 0 ((List.replicate p_a.length d_Clock))) (fun r => r) (fun x21 =>
    x21)
def l_toVLease (p_a : DVLease) : DVLease :=
  p_a
def B_l_toVLeaseS_0 (p_a : List DVLease) (k10 : Nat) : (List DVLease) → Out (List DVLease) (List DVLease)
  | (x21) => .cont ((x21.set k10 (p_a.getD k10 d_VLease)))
def l_toVLeaseS (p_a : List DVLease) : List DVLease :=
  loopE (loopM (B_l_toVLeaseS_0 p_a) (p_a.length - 0) 0 ((List.replicate p_a.length d_VLease))) (fun r => r) (fun x21 =>
    x21)
def l_toRenew (p_a : DRenew) : DRenew :=
  p_a
def s_l1In (p_n : Int) (p_lo : Int) (p_hi : Int) : Bool :=
  bif decide (p_lo ≤ p_n) then
    decide (p_n ≤ p_hi)
  else
    false
def s_l2Clock (p_c : DClock) : Bool :=
  (s_l1In p_c.Off (-5) 5)
def s_GoodClock (p_c : DClock) : Bool :=
  (s_l2Clock p_c)
def B_s_l28Clocks_0 (p_l : List DClock) (k3 : Nat) : Unit → Out Bool Unit
  | () => bif s_GoodClock (p_l.getD k3 d_Clock) then
      .cont ()
    else
      .ret false
def s_l28Clocks (p_l : List DClock) : Bool :=
  loopE (loopM (B_s_l28Clocks_0 p_l) (p_l.length - 0) 0 ()) (fun r => r) (fun _ =>
    (s_l1In (p_l.length : Int) 1 3))
def B_s_GoodRenew_0 (p_r : DRenew) (k27 : Nat) : Unit → Out Bool Unit
  | () => bif s_l1In ((p_r.Leases.getD k27 d_VLease).Ver) 0 p_r.Ver then
      bif s_l1In ((p_r.Leases.getD k27 d_VLease).Until) 0 1020 then
        .cont ()
      else
        .ret false
    else
      .ret false
def s_GoodRenew (p_r : DRenew) : Bool :=
  bif s_l1In p_r.Now 0 1000 then
    bif s_GoodClock p_r.Master then
      bif s_l28Clocks p_r.Clocks then
        bif s_l1In p_r.Ver 0 20 then
          bif decide ((p_r.Leases.length : Int) = (p_r.Clocks.length : Int)) then
            loopE (loopM (B_s_GoodRenew_0 p_r) (p_r.Leases.length - 0) 0 ()) (fun r => r) (fun _ =>
              true)
          else
            false
        else
          false
      else
        false
    else
      false
  else
    false
def s_l28High (p_r : DRenew) (p_c : DClock) : Int :=
  IntKind.wrap .i64 ((IntKind.wrap .i64 (p_r.Now + p_c.Off)) + 5)
def s_l28Usable (p_r : DRenew) (p_server : Int) : Bool :=
  decide ((s_l28High p_r (p_r.Clocks.getD ((p_server).toNat) d_Clock)) < ((p_r.Leases.getD ((p_server).toNat) d_VLease).Until))
def B_s_AreNear_1 (p_r : DRenew) (k14 : Nat) (k15 : Nat) : Unit → Out (Bool × Bool) Unit
  | () => bif s_l28Usable p_r (k14 : Int) then
      bif s_l28Usable p_r (k15 : Int) then
        bif decide (1 < (IntKind.wrap .i64 (((p_r.Leases.getD k14 d_VLease).Ver) - ((p_r.Leases.getD k15 d_VLease).Ver)))) then
          .ret (false, true)
        else
          .cont ()
      else
        .cont ()
    else
      .cont ()
def B_s_AreNear_0 (p_r : DRenew) (k14 : Nat) : Unit → Out (Bool × Bool) Unit
  | () => loopE (loopM (B_s_AreNear_1 p_r k14) (p_r.Leases.length - 0) 0 ()) (fun r => Out.ret r) (fun _ =>
      .cont ())
def s_AreNear (p_r : DRenew) : Bool × Bool :=
  bif s_GoodRenew p_r then
    loopE (loopM (B_s_AreNear_0 p_r) (p_r.Leases.length - 0) 0 ()) (fun r => r) (fun _ =>
      (true, true))
  else
    (false, false)
def i_within (p_n : Int) (p_low : Int) (p_high : Int) : Bool :=
  bif decide (p_low ≤ p_n) then
    decide (p_n ≤ p_high)
  else
    false
def i_GoodClock (p_c : DClock) : Bool :=
  (i_within p_c.Off (-5) 5)
def B_g_slices_IndexFunc_Clock_0 (p_s : List DClock) (p_f : DClock → Bool) (k7 : Nat) : Unit → Out Int Unit
  | () => bif p_f (p_s.getD k7 d_Clock) then
      .ret (k7 : Int)
    else
      .cont ()
def g_slices_IndexFunc_Clock (p_s : List DClock) (p_f : DClock → Bool) : Int :=
  loopE (loopM (B_g_slices_IndexFunc_Clock_0 p_s p_f) (p_s.length - 0) 0 ()) (fun r => r) (fun _ =>
    -1)
def g_slices_ContainsFunc_Clock (p_s : List DClock) (p_f : DClock → Bool) : Bool :=
  decide (0 ≤ (g_slices_IndexFunc_Clock p_s p_f))
def i_GoodRenew_c1 (p_c : DClock) : Bool :=
  !(i_GoodClock p_c)
def B_g_slices_IndexFunc_VLease_0 (p_s : List DVLease) (p_f : DVLease → Bool) (k7 : Nat) : Unit → Out Int Unit
  | () => bif p_f (p_s.getD k7 d_VLease) then
      .ret (k7 : Int)
    else
      .cont ()
def g_slices_IndexFunc_VLease (p_s : List DVLease) (p_f : DVLease → Bool) : Int :=
  loopE (loopM (B_g_slices_IndexFunc_VLease_0 p_s p_f) (p_s.length - 0) 0 ()) (fun r => r) (fun _ =>
    -1)
def g_slices_ContainsFunc_VLease (p_s : List DVLease) (p_f : DVLease → Bool) : Bool :=
  decide (0 ≤ (g_slices_IndexFunc_VLease p_s p_f))
def i_GoodRenew_c2 (p_l : DVLease) (p_cap0 : DRenew) : Bool :=
  bif i_within p_l.Ver 0 p_cap0.Ver then
    !(i_within p_l.Until 0 1020)
  else
    true
def i_GoodRenew (p_r : DRenew) : Bool :=
  bif i_within p_r.Now 0 1000 then
    bif i_GoodClock p_r.Master then
      bif i_within (p_r.Clocks.length : Int) 1 3 then
        bif i_within p_r.Ver 0 20 then
          bif decide ((p_r.Leases.length : Int) = (p_r.Clocks.length : Int)) then
            bif g_slices_ContainsFunc_Clock p_r.Clocks (fun y0 => i_GoodRenew_c1 y0) then
              false
            else
              !(g_slices_ContainsFunc_VLease p_r.Leases (fun y0 => i_GoodRenew_c2 y0 p_r))
          else
            false
        else
          false
      else
        false
    else
      false
  else
    false
def i_Clock_span (p_c : DClock) (p_now : Int) : DSpan :=
  (⟨IntKind.wrap .i64 ((IntKind.wrap .i64 (p_now + p_c.Off)) - 5), IntKind.wrap .i64 ((IntKind.wrap .i64 (p_now + p_c.Off)) + 5)⟩ : DSpan)
def i_Renew_usable (p_r : DRenew) (p_server : Int) : Bool :=
  decide (((i_Clock_span (p_r.Clocks.getD ((p_server).toNat) d_Clock) p_r.Now).High) < ((p_r.Leases.getD ((p_server).toNat) d_VLease).Until))
def B_g_slices_Max_int_0 (p_x : List Int) (k4 : Nat) : Int → Out Int Int
  | (x5) => .cont (max x5 (p_x.getD k4 d_Int))
def g_slices_Max_int (p_x : List Int) : Int :=
  loopE (loopM (B_g_slices_Max_int_0 p_x) (p_x.length - 1) 1 ((p_x.getD 0 d_Int))) (fun r => r) (fun x5 =>
    x5)
def B_g_slices_Min_int_0 (p_x : List Int) (k4 : Nat) : Int → Out Int Int
  | (x5) => .cont (min x5 (p_x.getD k4 d_Int))
def g_slices_Min_int (p_x : List Int) : Int :=
  loopE (loopM (B_g_slices_Min_int_0 p_x) (p_x.length - 1) 1 ((p_x.getD 0 d_Int))) (fun r => r) (fun x5 =>
    x5)
def B_i_AreNear_0 (p_r : DRenew) (k21 : Nat) : (List Int) → Out (Bool × Bool) (List Int)
  | (x50) => bif i_Renew_usable p_r (k21 : Int) then
      .cont ((x50 ++ ([(p_r.Leases.getD k21 d_VLease).Ver] : List Int)))
    else
      .cont (x50)
def i_AreNear (p_r : DRenew) : Bool × Bool :=
  bif i_GoodRenew p_r then
    loopE (loopM (B_i_AreNear_0 p_r) (p_r.Leases.length - 0) 0 (([] : List Int))) (fun r => r) (fun x50 =>
      bif decide ((x50.length : Int) = 0) then
        (true, true)
      else
        (decide ((IntKind.wrap .i64 ((g_slices_Max_int x50) - (g_slices_Min_int x50))) ≤ 1), true))
  else
    (false, false)
def l_FnExactAreNear (p_aR : DRenew) : Bool :=
  bif decide ((l_szRenew p_aR 1048576) < 0) then
    true
  else
    bif ((i_AreNear p_aR).1) == ((s_AreNear p_aR).1) then
      bif ((i_AreNear p_aR).2) == ((s_AreNear p_aR).2) then
        bif l_eqRenew p_aR p_aR then
          true
        else
          false
      else
        false
    else
      false
end Go.Proofs.Ytnfjabkdlkejkaa
