/- Good Fill: the plain forms of the values, and plain models of the functions. -/
import Derived.Test.YtnfjabkdlkejkaaE10
set_option linter.unusedVariables false
set_option linter.unusedSimpArgs false
namespace Go.Proofs.Ytnfjabkdlkejkaa
open Go.RowKit Go.X
structure DFill where
  Last : Str
  Over : Bool
def d_Fill : DFill := ⟨[], false⟩
def wf_Fill (x : DFill) : Prop := wfS x.Last
def ok_Fill (x : DFill) : Prop := okS x.Last
theorem ok_d_Fill : ok_Fill d_Fill := ok_d_Str
def e_Fill (x : DFill) : List Value := [.string (bs x.Last), .bool x.Over]
theorem good_Fill : Gd (RF e_Fill) := RF.good fun _ => rfl
structure DClock where
  Off : Int
def d_Clock : DClock := ⟨0⟩
def wf_Clock (x : DClock) : Prop := wfI x.Off
def e_Clock (x : DClock) : List Value := [.int .i64 x.Off]
theorem good_Clock : Gd (RF e_Clock) := RF.good fun _ => rfl
structure DVLease where
  Ver : Int
  Until : Int
def d_VLease : DVLease := ⟨0, 0⟩
def wf_VLease (x : DVLease) : Prop := wfI x.Ver ∧ wfI x.Until
def e_VLease (x : DVLease) : List Value := [.int .i64 x.Ver, .int .i64 x.Until]
theorem good_VLease : Gd (RF e_VLease) := RF.good fun _ => rfl
structure DWrite where
  Key : Str
  Val : Str
  Gone : Bool
def d_Write : DWrite := ⟨[], [], false⟩
def wf_Write (x : DWrite) : Prop := wfS x.Key ∧ wfS x.Val
def ok_Write (x : DWrite) : Prop := okS x.Key ∧ okS x.Val
theorem ok_d_Write : ok_Write d_Write := ⟨ok_d_Str, ok_d_Str⟩
def e_Write (x : DWrite) : List Value := [.string (bs x.Key), .string (bs x.Val), .bool x.Gone]
theorem good_Write : Gd (RF e_Write) := RF.good fun _ => rfl
structure DIdx where
  Name : Str
  Col : Int
  Stage : Int
def d_Idx : DIdx := ⟨[], 0, 0⟩
def wf_Idx (x : DIdx) : Prop := wfS x.Name ∧ wfI x.Col ∧ wfI x.Stage
def ok_Idx (x : DIdx) : Prop := okS x.Name
theorem ok_d_Idx : ok_Idx d_Idx := ok_d_Str
def e_Idx (x : DIdx) : List Value := [.string (bs x.Name), .int .i64 x.Col, .int .i64 x.Stage]
theorem good_Idx : Gd (RF e_Idx) := RF.good fun _ => rfl
def l_szFill (p_a : DFill) (p_left : Int) : Int :=
  bif decide ((IntKind.wrap .i64 (p_left - (p_a.Last.length : Int))) < 0) then
    -1
  else
    IntKind.wrap .i64 (p_left - (p_a.Last.length : Int))
def s_l1In (p_n : Int) (p_lo : Int) (p_hi : Int) : Bool :=
  bif decide (p_lo ≤ p_n) then
    decide (p_n ≤ p_hi)
  else
    false
def B_s_l3Bytes_1 (p_s : Str) (p_more : Str) (k3 : Nat) (k6 : Nat) : Bool → Out Bool Bool
  | (x7) => bif x7 then
      .cont (true)
    else
      .cont (decide (((p_s.getD k3 0).toNat : Int) = ((p_more.getD k6 0).toNat : Int)))
def B_s_l3Bytes_0 (p_s : Str) (p_more : Str) (k3 : Nat) : Unit → Out Bool Unit
  | () => bif decide (97 ≤ ((p_s.getD k3 0).toNat : Int)) then
      bif decide (((p_s.getD k3 0).toNat : Int) ≤ 122) then
        loopE (loopM (B_s_l3Bytes_1 p_s p_more k3) (p_more.length - 0) 0 (true)) (fun r => Out.ret r) (fun x7 =>
          bif x7 then
            .cont ()
          else
            .ret false)
      else
        bif decide (48 ≤ ((p_s.getD k3 0).toNat : Int)) then
          loopE (loopM (B_s_l3Bytes_1 p_s p_more k3) (p_more.length - 0) 0 (decide (((p_s.getD k3 0).toNat : Int) ≤ 57))) (fun r => Out.ret r) (fun x12 =>
            bif x12 then
              .cont ()
            else
              .ret false)
        else
          loopE (loopM (B_s_l3Bytes_1 p_s p_more k3) (p_more.length - 0) 0 (false)) (fun r => Out.ret r) (fun x15 =>
            bif x15 then
              .cont ()
            else
              .ret false)
    else
      bif decide (48 ≤ ((p_s.getD k3 0).toNat : Int)) then
        loopE (loopM (B_s_l3Bytes_1 p_s p_more k3) (p_more.length - 0) 0 (decide (((p_s.getD k3 0).toNat : Int) ≤ 57))) (fun r => Out.ret r) (fun x19 =>
          bif x19 then
            .cont ()
          else
            .ret false)
      else
        loopE (loopM (B_s_l3Bytes_1 p_s p_more k3) (p_more.length - 0) 0 (false)) (fun r => Out.ret r) (fun x22 =>
          bif x22 then
            .cont ()
          else
            .ret false)
def s_l3Bytes (p_s : Str) (p_more : Str) : Bool :=
  loopE (loopM (B_s_l3Bytes_0 p_s p_more) (p_s.length - 0) 0 ()) (fun r => r) (fun _ =>
    true)
def s_l3Key (p_s : Str) : Bool :=
  bif s_l1In (p_s.length : Int) 1 12 then
    (s_l3Bytes p_s ([46, 47] : Str))
  else
    false
def s_GoodFill (p_f : DFill) : Bool :=
  bif p_f.Last == ([] : Str) then
    true
  else
    (s_l3Key p_f.Last)
def l_toFill (p_a : DFill) : DFill :=
  p_a
def i_within (p_n : Int) (p_low : Int) (p_high : Int) : Bool :=
  bif decide (p_low ≤ p_n) then
    decide (p_n ≤ p_high)
  else
    false
def i_isLowerOrDigit (p_b : Int) : Bool :=
  bif decide (97 ≤ p_b) then
    bif decide (p_b ≤ 122) then
      true
    else
      bif decide (48 ≤ p_b) then
        decide (p_b ≤ 57)
      else
        false
  else
    bif decide (48 ≤ p_b) then
      decide (p_b ≤ 57)
    else
      false
def g_internal_stringslite_IndexByte (p_s : Str) (p_c : Int) : Int :=
  idxB p_s p_c
def g_strings_IndexByte (p_s : Str) (p_c : Int) : Int :=
  (g_internal_stringslite_IndexByte p_s p_c)
def B_i_hasBytes_0 (p_s : Str) (p_others : Str) (k3 : Nat) : Unit → Out Bool Unit
  | () => bif i_isLowerOrDigit ((p_s.getD k3 0).toNat : Int) then
      .cont ()
    else
      bif decide ((g_strings_IndexByte p_others ((p_s.getD k3 0).toNat : Int)) < 0) then
        .ret false
      else
        .cont ()
def i_hasBytes (p_s : Str) (p_others : Str) : Bool :=
  loopE (loopM (B_i_hasBytes_0 p_s p_others) (p_s.length - 0) 0 ()) (fun r => r) (fun _ =>
    true)
def i_GoodKey (p_s : Str) : Bool :=
  bif i_within (p_s.length : Int) 1 12 then
    (i_hasBytes p_s ([46, 47] : Str))
  else
    false
def i_GoodFill (p_f : DFill) : Bool :=
  bif p_f.Last == ([] : Str) then
    true
  else
    (i_GoodKey p_f.Last)
def l_FnExactGoodFill (p_aF : DFill) : Bool :=
  bif decide ((l_szFill p_aF 1048576) < 0) then
    true
  else
    bif (i_GoodFill p_aF) == (s_GoodFill p_aF) then
      true
    else
      false
end Go.Proofs.Ytnfjabkdlkejkaa
