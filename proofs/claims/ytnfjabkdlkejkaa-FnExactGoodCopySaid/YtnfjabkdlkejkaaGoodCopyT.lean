/- Good Copy: the plain forms of the values, and plain models of the functions. -/
import Derived.Test.YtnfjabkdlkejkaaE10
set_option linter.unusedVariables false
set_option linter.unusedSimpArgs false
namespace Go.Proofs.Ytnfjabkdlkejkaa
open Go.RowKit Go.X
structure DWrite where
  Key : Str
  Val : Str
  Gone : Bool
def d_Write : DWrite := ⟨[], [], false⟩
def wf_Write (x : DWrite) : Prop := wfS x.Key ∧ wfS x.Val
def ok_Write (x : DWrite) : Prop := okS x.Key ∧ okS x.Val
theorem ok_d_Write : ok_Write d_Write := ⟨ok_d_Str, ok_d_Str⟩
def e_Write (x : DWrite) : List Value := [.string (bs x.Key), .string (bs x.Val), .bool x.Gone]
theorem good_Write : Gd (RF e_Write) := RF.good fun _ => rfl
structure DCopy where
  Time : Int
  Rows : List DWrite
def d_Copy : DCopy := ⟨0, []⟩
def wf_Copy (x : DCopy) : Prop := wfI x.Time ∧ (wfL wf_Write) x.Rows
def ok_Copy (x : DCopy) : Prop := (okL ok_Write) x.Rows
theorem ok_d_Copy : ok_Copy d_Copy := okL.nil _
def R_Copy : Rel DCopy := fun w S cs x => ∃ A1 c1, cs = [.int .i64 x.Time, .slice A1 x.Rows.length c1] ∧ RdS w S (RF e_Write) 3 A1 x.Rows.length c1 x.Rows
theorem good_Copy : Gd R_Copy := ⟨fun ⟨A1, c1, he, h0⟩ hk => ⟨A1, c1, he, RdS.keep good_Write h0 hk⟩, fun ⟨A1, c1, he, h0⟩ hw => ⟨A1, c1, he, RdS.wide good_Write h0 hw⟩, fun ⟨A1, c1, he, h0⟩ => by rw [he]; rfl⟩
structure DClock where
  Off : Int
def d_Clock : DClock := ⟨0⟩
def wf_Clock (x : DClock) : Prop := wfI x.Off
def e_Clock (x : DClock) : List Value := [.int .i64 x.Off]
theorem good_Clock : Gd (RF e_Clock) := RF.good fun _ => rfl
structure DVLease where
  Ver : Int
  Until : Int
def d_VLease : DVLease := ⟨0, 0⟩
def wf_VLease (x : DVLease) : Prop := wfI x.Ver ∧ wfI x.Until
def e_VLease (x : DVLease) : List Value := [.int .i64 x.Ver, .int .i64 x.Until]
theorem good_VLease : Gd (RF e_VLease) := RF.good fun _ => rfl
structure DIdx where
  Name : Str
  Col : Int
  Stage : Int
def d_Idx : DIdx := ⟨[], 0, 0⟩
def wf_Idx (x : DIdx) : Prop := wfS x.Name ∧ wfI x.Col ∧ wfI x.Stage
def ok_Idx (x : DIdx) : Prop := okS x.Name
theorem ok_d_Idx : ok_Idx d_Idx := ok_d_Str
def e_Idx (x : DIdx) : List Value := [.string (bs x.Name), .int .i64 x.Col, .int .i64 x.Stage]
theorem good_Idx : Gd (RF e_Idx) := RF.good fun _ => rfl
def l_szWrite (p_a : DWrite) (p_left : Int) : Int :=
  bif decide ((IntKind.wrap .i64 (p_left - (p_a.Key.length : Int))) < 0) then
    -1
  else
    bif decide ((IntKind.wrap .i64 ((IntKind.wrap .i64 (p_left - (p_a.Key.length : Int))) - (p_a.Val.length : Int))) < 0) then
      -1
    else
      IntKind.wrap .i64 ((IntKind.wrap .i64 (p_left - (p_a.Key.length : Int))) - (p_a.Val.length : Int))
def B_l_szWriteS_0 (p_a : List DWrite) (p_left : Int) (k3 : Nat) : Int → Out Int Int
  | (x4) => bif decide ((l_szWrite (p_a.getD k3 d_Write) x4) < 0) then
      .ret (-1)
    else
      .cont ((l_szWrite (p_a.getD k3 d_Write) x4))
def l_szWriteS (p_a : List DWrite) (p_left : Int) : Int :=
  bif decide ((IntKind.wrap .i64 (p_left - (p_a.length : Int))) < 0) then
    -1
  else
    loopE (loopM (B_l_szWriteS_0 p_a p_left) (p_a.length - 0) 0 (IntKind.wrap .i64 (p_left - (p_a.length : Int)))) (fun r => r) (fun x4 =>
      x4)
def l_szCopy (p_a : DCopy) (p_left : Int) : Int :=
  bif decide ((l_szWriteS p_a.Rows p_left) < 0) then
    -1
  else
    (l_szWriteS p_a.Rows p_left)
def s_l1In (p_n : Int) (p_lo : Int) (p_hi : Int) : Bool :=
  bif decide (p_lo ≤ p_n) then
    decide (p_n ≤ p_hi)
  else
    false
def B_s_l3Bytes_1 (p_s : Str) (p_more : Str) (k3 : Nat) (k6 : Nat) : Bool → Out Bool Bool
  | (x7) => bif x7 then
      .cont (true)
    else
      .cont (decide (((p_s.getD k3 0).toNat : Int) = ((p_more.getD k6 0).toNat : Int)))
def B_s_l3Bytes_0 (p_s : Str) (p_more : Str) (k3 : Nat) : Unit → Out Bool Unit
  | () => bif decide (97 ≤ ((p_s.getD k3 0).toNat : Int)) then
      bif decide (((p_s.getD k3 0).toNat : Int) ≤ 122) then
        loopE (loopM (B_s_l3Bytes_1 p_s p_more k3) (p_more.length - 0) 0 (true)) (fun r => Out.ret r) (fun x7 =>
          bif x7 then
            .cont ()
          else
            .ret false)
      else
        bif decide (48 ≤ ((p_s.getD k3 0).toNat : Int)) then
          loopE (loopM (B_s_l3Bytes_1 p_s p_more k3) (p_more.length - 0) 0 (decide (((p_s.getD k3 0).toNat : Int) ≤ 57))) (fun r => Out.ret r) (fun x12 =>
            bif x12 then
              .cont ()
            else
              .ret false)
        else
          loopE (loopM (B_s_l3Bytes_1 p_s p_more k3) (p_more.length - 0) 0 (false)) (fun r => Out.ret r) (fun x15 =>
            bif x15 then
              .cont ()
            else
              .ret false)
    else
      bif decide (48 ≤ ((p_s.getD k3 0).toNat : Int)) then
        loopE (loopM (B_s_l3Bytes_1 p_s p_more k3) (p_more.length - 0) 0 (decide (((p_s.getD k3 0).toNat : Int) ≤ 57))) (fun r => Out.ret r) (fun x19 =>
          bif x19 then
            .cont ()
          else
            .ret false)
      else
        loopE (loopM (B_s_l3Bytes_1 p_s p_more k3) (p_more.length - 0) 0 (false)) (fun r => Out.ret r) (fun x22 =>
          bif x22 then
            .cont ()
          else
            .ret false)
def s_l3Bytes (p_s : Str) (p_more : Str) : Bool :=
  loopE (loopM (B_s_l3Bytes_0 p_s p_more) (p_s.length - 0) 0 ()) (fun r => r) (fun _ =>
    true)
def s_l3Key (p_s : Str) : Bool :=
  bif s_l1In (p_s.length : Int) 1 12 then
    (s_l3Bytes p_s ([46, 47] : Str))
  else
    false
def s_l3Val (p_s : Str) : Bool :=
  bif decide ((p_s.length : Int) ≤ 24) then
    (s_l3Bytes p_s ([46, 45, 44, 95] : Str))
  else
    false
def s_l3Write (p_key : Str) (p_val : Str) (p_gone : Bool) : Bool :=
  bif s_l3Key p_key then
    bif s_l3Val p_val then
      bif p_gone then
        p_val == ([] : Str)
      else
        true
    else
      false
  else
    false
def B_s_l3Writes_0 (p_l : List DWrite) (k3 : Nat) : Unit → Out Bool Unit
  | () => bif s_l3Write ((p_l.getD k3 d_Write).Key) ((p_l.getD k3 d_Write).Val) ((p_l.getD k3 d_Write).Gone) then
      bif decide (0 < (k3 : Int)) then
        bif sLt ((p_l.getD ((IntKind.wrap .i64 ((k3 : Int) - 1)).toNat) d_Write).Key) ((p_l.getD k3 d_Write).Key) then
          .cont ()
        else
          .ret false
      else
        .cont ()
    else
      .ret false
def s_l3Writes (p_l : List DWrite) : Bool :=
  loopE (loopM (B_s_l3Writes_0 p_l) (p_l.length - 0) 0 ()) (fun r => r) (fun _ =>
    decide ((p_l.length : Int) ≤ 24))
def B_s_l31Copy_0 (p_c : DCopy) (k9 : Nat) : Unit → Out Bool Unit
  | () => bif (p_c.Rows.getD k9 d_Write).Gone then
      .ret false
    else
      .cont ()
def s_l31Copy (p_c : DCopy) : Bool :=
  loopE (loopM (B_s_l31Copy_0 p_c) (p_c.Rows.length - 0) 0 ()) (fun r => r) (fun _ =>
    bif s_l1In p_c.Time 0 100000 then
      bif s_l3Writes p_c.Rows then
        bif decide (0 < p_c.Time) then
          true
        else
          decide ((p_c.Rows.length : Int) = 0)
      else
        false
    else
      false)
def s_GoodCopy (p_c : DCopy) : Bool :=
  (s_l31Copy p_c)
def l_toWrite (p_a : DWrite) : DWrite :=
  p_a
def B_l_toWriteS_0 (p_a : List DWrite) (k10 : Nat) : (List DWrite) → Out (List DWrite) (List DWrite)
  | (x21) => .cont ((x21.set k10 (p_a.getD k10 d_Write)))
def l_toWriteS (p_a : List DWrite) : List DWrite :=
  loopE (loopM (B_l_toWriteS_0 p_a) (p_a.length - 0) 0 ((List.replicate p_a.length d_Write))) (fun r => r) (fun x21 =>
    x21)
def l_toCopy (p_a : DCopy) : DCopy :=
  p_a
def i_within (p_n : Int) (p_low : Int) (p_high : Int) : Bool :=
  bif decide (p_low ≤ p_n) then
    decide (p_n ≤ p_high)
  else
    false
def i_isTrue (p_now : Int) : Bool :=
  (i_within p_now 0 100000)
def B_g_slices_IndexFunc_Write_0 (p_s : List DWrite) (p_f : DWrite → Bool) (k7 : Nat) : Unit → Out Int Unit
  | () => bif p_f (p_s.getD k7 d_Write) then
      .ret (k7 : Int)
    else
      .cont ()
def g_slices_IndexFunc_Write (p_s : List DWrite) (p_f : DWrite → Bool) : Int :=
  loopE (loopM (B_g_slices_IndexFunc_Write_0 p_s p_f) (p_s.length - 0) 0 ()) (fun r => r) (fun _ =>
    -1)
def g_slices_ContainsFunc_Write (p_s : List DWrite) (p_f : DWrite → Bool) : Bool :=
  decide (0 ≤ (g_slices_IndexFunc_Write p_s p_f))
def i_isLowerOrDigit (p_b : Int) : Bool :=
  bif decide (97 ≤ p_b) then
    bif decide (p_b ≤ 122) then
      true
    else
      bif decide (48 ≤ p_b) then
        decide (p_b ≤ 57)
      else
        false
  else
    bif decide (48 ≤ p_b) then
      decide (p_b ≤ 57)
    else
      false
def g_internal_stringslite_IndexByte (p_s : Str) (p_c : Int) : Int :=
  idxB p_s p_c
def g_strings_IndexByte (p_s : Str) (p_c : Int) : Int :=
  (g_internal_stringslite_IndexByte p_s p_c)
def B_i_hasBytes_0 (p_s : Str) (p_others : Str) (k3 : Nat) : Unit → Out Bool Unit
  | () => bif i_isLowerOrDigit ((p_s.getD k3 0).toNat : Int) then
      .cont ()
    else
      bif decide ((g_strings_IndexByte p_others ((p_s.getD k3 0).toNat : Int)) < 0) then
        .ret false
      else
        .cont ()
def i_hasBytes (p_s : Str) (p_others : Str) : Bool :=
  loopE (loopM (B_i_hasBytes_0 p_s p_others) (p_s.length - 0) 0 ()) (fun r => r) (fun _ =>
    true)
def i_GoodKey (p_s : Str) : Bool :=
  bif i_within (p_s.length : Int) 1 12 then
    (i_hasBytes p_s ([46, 47] : Str))
  else
    false
def B_i_areRising_0 (p_keys : List Str) (k3 : Nat) : Unit → Out Bool Unit
  | () => bif i_GoodKey (p_keys.getD k3 d_Str) then
      bif decide (0 < (k3 : Int)) then
        bif sLe (p_keys.getD k3 d_Str) (p_keys.getD ((IntKind.wrap .i64 ((k3 : Int) - 1)).toNat) d_Str) then
          .ret false
        else
          .cont ()
      else
        .cont ()
    else
      .ret false
def i_areRising (p_keys : List Str) : Bool :=
  loopE (loopM (B_i_areRising_0 p_keys) (p_keys.length - 0) 0 ()) (fun r => r) (fun _ =>
    true)
def B_i_writeKeys_0 (p_l : List DWrite) (k10 : Nat) : (List Str) → Out (List Str) (List Str)
  | (x35) => .cont ((x35 ++ ([(p_l.getD k10 d_Write).Key] : List Str)))
def i_writeKeys (p_l : List DWrite) : List Str :=
  loopE (loopM (B_i_writeKeys_0 p_l) (p_l.length - 0) 0 (([] : List Str))) (fun r => r) (fun x35 =>
    x35)
def i_GoodVal (p_s : Str) : Bool :=
  bif decide ((p_s.length : Int) ≤ 24) then
    (i_hasBytes p_s ([46, 45, 44, 95] : Str))
  else
    false
def i_isStored (p_val : Str) (p_gone : Bool) : Bool :=
  bif i_GoodVal p_val then
    bif p_gone then
      !(!(p_val == ([] : Str)))
    else
      !false
  else
    false
def i_GoodWrites_c1 (p_w : DWrite) : Bool :=
  !(i_isStored p_w.Val p_w.Gone)
def i_GoodWrites (p_l : List DWrite) : Bool :=
  bif decide ((p_l.length : Int) ≤ 24) then
    bif i_areRising (i_writeKeys p_l) then
      !(g_slices_ContainsFunc_Write p_l (fun y0 => i_GoodWrites_c1 y0))
    else
      false
  else
    false
def i_isRows_c1 (p_w : DWrite) : Bool :=
  p_w.Gone
def i_isRows (p_rows : List DWrite) : Bool :=
  bif i_GoodWrites p_rows then
    !(g_slices_ContainsFunc_Write p_rows (fun y0 => i_isRows_c1 y0))
  else
    false
def i_GoodCopy (p_c : DCopy) : Bool :=
  bif i_isTrue p_c.Time then
    bif i_isRows p_c.Rows then
      bif decide (0 < p_c.Time) then
        true
      else
        decide ((p_c.Rows.length : Int) = 0)
    else
      false
  else
    false
def l_eqWrite (p_a : DWrite) (p_b : DWrite) : Bool :=
  bif p_a.Key == p_b.Key then
    bif p_a.Val == p_b.Val then
      bif p_a.Gone == p_b.Gone then
        true
      else
        false
    else
      false
  else
    false
def B_l_eqWriteS_0 (p_a : List DWrite) (p_b : List DWrite) (k4 : Nat) : Unit → Out Bool Unit
  | () => bif l_eqWrite (p_a.getD k4 d_Write) (p_b.getD k4 d_Write) then
      .cont ()
    else
      .ret false
def l_eqWriteS (p_a : List DWrite) (p_b : List DWrite) : Bool :=
  bif decide ((p_a.length : Int) = (p_b.length : Int)) then
    loopE (loopM (B_l_eqWriteS_0 p_a p_b) (p_a.length - 0) 0 ()) (fun r => r) (fun _ =>
      true)
  else
    false
def l_eqCopy (p_a : DCopy) (p_b : DCopy) : Bool :=
  bif decide (p_a.Time = p_b.Time) then
    bif l_eqWriteS p_a.Rows p_b.Rows then
      true
    else
      false
  else
    false
def l_FnExactGoodCopy (p_aC : DCopy) : Bool :=
  bif decide ((l_szCopy p_aC 1048576) < 0) then
    true
  else
    bif (i_GoodCopy p_aC) == (s_GoodCopy p_aC) then
      bif l_eqCopy p_aC p_aC then
        true
      else
        false
    else
      false
end Go.Proofs.Ytnfjabkdlkejkaa
