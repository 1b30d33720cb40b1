/- Powers At: the plain forms of the values, and plain models of the functions. -/
import Derived.Test.YtnfjabkdlkejkaaE9
namespace Go.Proofs.Ytnfjabkdlkejkaa
open Go.RowKit Go.X
structure DClock where
  Off : Int
def d_Clock : DClock := ⟨0⟩
def wf_Clock (x : DClock) : Prop := wfI x.Off
def e_Clock (x : DClock) : List Value := [.int .i64 x.Off]
theorem good_Clock : Gd (RF e_Clock) := RF.good fun _ => rfl
structure DVLease where
  Ver : Int
  Until : Int
def d_VLease : DVLease := ⟨0, 0⟩
def wf_VLease (x : DVLease) : Prop := wfI x.Ver ∧ wfI x.Until
def e_VLease (x : DVLease) : List Value := [.int .i64 x.Ver, .int .i64 x.Until]
theorem good_VLease : Gd (RF e_VLease) := RF.good fun _ => rfl
structure DWrite where
  Key : Str
  Val : Str
  Gone : Bool
def d_Write : DWrite := ⟨[], [], false⟩
def wf_Write (x : DWrite) : Prop := wfS x.Key ∧ wfS x.Val
def ok_Write (x : DWrite) : Prop := okS x.Key ∧ okS x.Val
theorem ok_d_Write : ok_Write d_Write := ⟨ok_d_Str, ok_d_Str⟩
def e_Write (x : DWrite) : List Value := [.string (bs x.Key), .string (bs x.Val), .bool x.Gone]
theorem good_Write : Gd (RF e_Write) := RF.good fun _ => rfl
structure DIdx where
  Name : Str
  Col : Int
  Stage : Int
def d_Idx : DIdx := ⟨[], 0, 0⟩
def wf_Idx (x : DIdx) : Prop := wfS x.Name ∧ wfI x.Col ∧ wfI x.Stage
def ok_Idx (x : DIdx) : Prop := okS x.Name
theorem ok_d_Idx : ok_Idx d_Idx := ok_d_Str
def e_Idx (x : DIdx) : List Value := [.string (bs x.Name), .int .i64 x.Col, .int .i64 x.Stage]
theorem good_Idx : Gd (RF e_Idx) := RF.good fun _ => rfl
def s_l1In (p_n : Int) (p_lo : Int) (p_hi : Int) : Bool :=
  bif decide (p_lo ≤ p_n) then
    decide (p_n ≤ p_hi)
  else
    false
def s_PowersAt (p_stage : Int) : Bool × Bool × Bool × Bool :=
  bif s_l1In p_stage 0 3 then
    (decide (1 ≤ p_stage), decide (2 ≤ p_stage), decide (3 ≤ p_stage), true)
  else
    (false, false, false, false)
def i_within (p_n : Int) (p_low : Int) (p_high : Int) : Bool :=
  bif decide (p_low ≤ p_n) then
    decide (p_n ≤ p_high)
  else
    false
def i_isStage (p_stage : Int) : Bool :=
  (i_within p_stage 0 3)
def i_deletes (p_stage : Int) : Bool :=
  decide (1 ≤ p_stage)
def i_inserts (p_stage : Int) : Bool :=
  decide (2 ≤ p_stage)
def i_PowersAt (p_stage : Int) : Bool × Bool × Bool × Bool :=
  bif i_isStage p_stage then
    ((i_deletes p_stage), (i_inserts p_stage), decide (p_stage = 3), true)
  else
    (false, false, false, false)
def l_FnExactPowersAt (p_aStage : Int) : Bool :=
  bif ((i_PowersAt p_aStage).1) == ((s_PowersAt p_aStage).1) then
    bif ((i_PowersAt p_aStage).2.1) == ((s_PowersAt p_aStage).2.1) then
      bif ((i_PowersAt p_aStage).2.2.1) == ((s_PowersAt p_aStage).2.2.1) then
        bif ((i_PowersAt p_aStage).2.2.2) == ((s_PowersAt p_aStage).2.2.2) then
          true
        else
          false
      else
        false
    else
      false
  else
    false
end Go.Proofs.Ytnfjabkdlkejkaa
