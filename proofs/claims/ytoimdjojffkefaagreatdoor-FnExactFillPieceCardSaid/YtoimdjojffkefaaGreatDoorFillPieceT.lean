/- Fill Piece: the plain forms of the values, and plain models of the functions. -/
import Derived.Test.YtoimdjojffkefaaGreatDoorE31
set_option linter.unusedVariables false
set_option linter.unusedSimpArgs false
namespace Go.Proofs.YtoimdjojffkefaaGreatDoor
open Go.RowKit Go.X
structure DIdx where
  Name : Str
  Col : Int
  Stage : Int
def d_Idx : DIdx := ⟨[], 0, 0⟩
def wf_Idx (x : DIdx) : Prop := wfS x.Name ∧ wfI x.Col ∧ wfI x.Stage
def ok_Idx (x : DIdx) : Prop := okS x.Name
theorem ok_d_Idx : ok_Idx d_Idx := ok_d_Str
def e_Idx (x : DIdx) : List Value := [.string (bs x.Name), .int .i64 x.Col, .int .i64 x.Stage]
theorem gI : Gd (RF e_Idx) := RF.good fun _ => rfl
structure DTable where
  Name : Str
  Cols : List Str
  Idxs : List DIdx
def d_Table : DTable := ⟨[], [], []⟩
def wf_Table (x : DTable) : Prop := wfS x.Name ∧ (wfL wfS) x.Cols ∧ (wfL wf_Idx) x.Idxs
def ok_Table (x : DTable) : Prop := okS x.Name ∧ (okL okS) x.Cols ∧ (okL ok_Idx) x.Idxs
theorem ok_d_Table : ok_Table d_Table := ⟨ok_d_Str, okL.nil _, okL.nil _⟩
def R_Table : Rel DTable := fun w S cs x => ∃ A1 c1 A2 c2, cs = [.string (bs x.Name), .slice A1 x.Cols.length c1, .slice A2 x.Idxs.length c2] ∧ RdS w S (RF e_Str) 1 A1 x.Cols.length c1 x.Cols ∧ RdS w S (RF e_Idx) 3 A2 x.Idxs.length c2 x.Idxs
def RO_Table : RelO DTable := fun w l h cs x => ∃ A1 c1 lo1 hi1 A2 c2 lo2 hi2, cs = [.string (bs x.Name), .slice A1 x.Cols.length c1, .slice A2 x.Idxs.length c2] ∧ OwnL w lo1 hi1 9 1 (RF e_Str) A1 x.Cols.length c1 x.Cols ∧ OwnL w lo2 hi2 111 3 (RF e_Idx) A2 x.Idxs.length c2 x.Idxs ∧ (l ≤ lo1 ∧ lo1 ≤ hi1 ∧ hi1 ≤ h) ∧ (l ≤ lo2 ∧ lo2 ≤ hi2 ∧ hi2 ≤ h) ∧ (hi1 ≤ lo2 ∨ hi2 ≤ lo1)
theorem good_Table : Gd R_Table := ⟨fun ⟨A1, c1, A2, c2, he, h0, h1⟩ hk => ⟨A1, c1, A2, c2, he, RdS.keep gS h0 hk, RdS.keep gI h1 hk⟩, fun ⟨A1, c1, A2, c2, he, h0, h1⟩ hw => ⟨A1, c1, A2, c2, he, RdS.wide gS h0 hw, RdS.wide gI h1 hw⟩, fun ⟨A1, c1, A2, c2, he, h0, h1⟩ => by rw [he]; rfl⟩
theorem goodO_Table : GdO RO_Table R_Table := ⟨fun ⟨A1, c1, lo1, hi1, A2, c2, lo2, hi2, he, h1, h2, r0, r1, r2⟩ hk => ⟨A1, c1, lo1, hi1, A2, c2, lo2, hi2, he, OwnL.keep gS h1 (fun b b1 b2 b3 => hk b oM oM b3), OwnL.keep gI h2 (fun b b1 b2 b3 => hk b oM oM b3), r0, r1, r2⟩, fun ⟨A1, c1, lo1, hi1, A2, c2, lo2, hi2, he, h1, h2, r0, r1, r2⟩ => by rw [he]; rfl, fun ⟨A1, c1, lo1, hi1, A2, c2, lo2, hi2, he, h1, h2, r0, r1, r2⟩ => ⟨A1, c1, A2, c2, he, RdS.wide gS (OwnL.rdI gS h1) (fun b hb _ => ⟨by have := hb.1; omega, by have := hb.2; omega⟩), RdS.wide gI (OwnL.rdI gI h2) (fun b hb _ => ⟨by have := hb.1; omega, by have := hb.2; omega⟩)⟩⟩
theorem mkO_Table {w : World} {l h : Nat} {z0 : Str} {lo1 hi1 n1 c1 : Nat} {A1 : Option Addr} {y1 : List Str} {lo2 hi2 n2 c2 : Nat} {A2 : Option Addr} {y2 : List DIdx} (h1 : OwnL w lo1 hi1 9 1 (RF e_Str) A1 n1 c1 y1) (h2 : OwnL w lo2 hi2 111 3 (RF e_Idx) A2 n2 c2 y2) (r0 : (l ≤ lo1 ∧ lo1 ≤ hi1 ∧ hi1 ≤ h)) (r1 : (l ≤ lo2 ∧ lo2 ≤ hi2 ∧ hi2 ≤ h)) (r2 : (hi1 ≤ lo2 ∨ hi2 ≤ lo1)) : RO_Table w l h [.string (bs z0), .slice A1 n1 c1, .slice A2 n2 c2] ⟨z0, y1, y2⟩ := by
  obtain rfl := h1.1; obtain rfl := h2.1
  exact ⟨A1, c1, lo1, hi1, A2, c2, lo2, hi2, rfl, h1, h2, r0, r1, r2⟩
structure DWrite where
  Key : Str
  Val : Str
  Gone : Bool
def d_Write : DWrite := ⟨[], [], false⟩
def wf_Write (x : DWrite) : Prop := wfS x.Key ∧ wfS x.Val
def ok_Write (x : DWrite) : Prop := okS x.Key ∧ okS x.Val
theorem ok_d_Write : ok_Write d_Write := ⟨ok_d_Str, ok_d_Str⟩
def e_Write (x : DWrite) : List Value := [.string (bs x.Key), .string (bs x.Val), .bool x.Gone]
theorem gW : Gd (RF e_Write) := RF.good fun _ => rfl
structure DFill where
  Last : Str
  Over : Bool
def d_Fill : DFill := ⟨[], false⟩
def wf_Fill (x : DFill) : Prop := wfS x.Last
def ok_Fill (x : DFill) : Prop := okS x.Last
theorem ok_d_Fill : ok_Fill d_Fill := ok_d_Str
def e_Fill (x : DFill) : List Value := [.string (bs x.Last), .bool x.Over]
theorem good_Fill : Gd (RF e_Fill) := RF.good fun _ => rfl
structure DOp where
  Kind : Int
  Key : Str
  Val : Str
  By : Int
def d_Op : DOp := ⟨0, [], [], 0⟩
def wf_Op (x : DOp) : Prop := wfI x.Kind ∧ wfS x.Key ∧ wfS x.Val ∧ wfI x.By
def ok_Op (x : DOp) : Prop := okS x.Key ∧ okS x.Val
theorem ok_d_Op : ok_Op d_Op := ⟨ok_d_Str, ok_d_Str⟩
def e_Op (x : DOp) : List Value := [.int .i64 x.Kind, .string (bs x.Key), .string (bs x.Val), .int .i64 x.By]
theorem good_Op : Gd (RF e_Op) := RF.good fun _ => rfl
structure DGot where
  Key : Str
  Val : Str
  There : Bool
def d_Got : DGot := ⟨[], [], false⟩
def wf_Got (x : DGot) : Prop := wfS x.Key ∧ wfS x.Val
def ok_Got (x : DGot) : Prop := okS x.Key ∧ okS x.Val
theorem ok_d_Got : ok_Got d_Got := ⟨ok_d_Str, ok_d_Str⟩
def e_Got (x : DGot) : List Value := [.string (bs x.Key), .string (bs x.Val), .bool x.There]
theorem good_Got : Gd (RF e_Got) := RF.good fun _ => rfl
structure DRow where
  Vals : List Str
def d_Row : DRow := ⟨[]⟩
def wf_Row (x : DRow) : Prop := (wfL wfS) x.Vals
def ok_Row (x : DRow) : Prop := (okL okS) x.Vals
theorem ok_d_Row : ok_Row d_Row := okL.nil _
def R_Row : Rel DRow := fun w S cs x => ∃ A1 c1, cs = [.slice A1 x.Vals.length c1] ∧ RdS w S (RF e_Str) 1 A1 x.Vals.length c1 x.Vals
def RO_Row : RelO DRow := fun w l h cs x => ∃ A1 c1 lo1 hi1, cs = [.slice A1 x.Vals.length c1] ∧ OwnL w lo1 hi1 9 1 (RF e_Str) A1 x.Vals.length c1 x.Vals ∧ (l ≤ lo1 ∧ lo1 ≤ hi1 ∧ hi1 ≤ h)
theorem good_Row : Gd R_Row := ⟨fun ⟨A1, c1, he, h0⟩ hk => ⟨A1, c1, he, RdS.keep gS h0 hk⟩, fun ⟨A1, c1, he, h0⟩ hw => ⟨A1, c1, he, RdS.wide gS h0 hw⟩, fun ⟨A1, c1, he, h0⟩ => by rw [he]; rfl⟩
theorem goodO_Row : GdO RO_Row R_Row := ⟨fun ⟨A1, c1, lo1, hi1, he, h1, r0⟩ hk => ⟨A1, c1, lo1, hi1, he, OwnL.keep gS h1 (fun b b1 b2 b3 => hk b oM oM b3), r0⟩, fun ⟨A1, c1, lo1, hi1, he, h1, r0⟩ => by rw [he]; rfl, fun ⟨A1, c1, lo1, hi1, he, h1, r0⟩ => ⟨A1, c1, he, RdS.wide gS (OwnL.rdI gS h1) (fun b hb _ => ⟨by have := hb.1; omega, by have := hb.2; omega⟩)⟩⟩
theorem mkO_Row {w : World} {l h : Nat} {lo1 hi1 n1 c1 : Nat} {A1 : Option Addr} {y1 : List Str} (h1 : OwnL w lo1 hi1 9 1 (RF e_Str) A1 n1 c1 y1) (r0 : (l ≤ lo1 ∧ lo1 ≤ hi1 ∧ hi1 ≤ h)) : RO_Row w l h [.slice A1 n1 c1] ⟨y1⟩ := by
  obtain rfl := h1.1
  exact ⟨A1, c1, lo1, hi1, rfl, h1, r0⟩
structure DTask where
  key : Str
  ops : List DOp
def d_Task : DTask := ⟨[], []⟩
def wf_Task (x : DTask) : Prop := wfS x.key ∧ (wfL wf_Op) x.ops
def ok_Task (x : DTask) : Prop := okS x.key ∧ (okL ok_Op) x.ops
theorem ok_d_Task : ok_Task d_Task := ⟨ok_d_Str, okL.nil _⟩
def R_Task : Rel DTask := fun w S cs x => ∃ A1 c1, cs = [.string (bs x.key), .slice A1 x.ops.length c1] ∧ RdS w S (RF e_Op) 4 A1 x.ops.length c1 x.ops
def RO_Task : RelO DTask := fun w l h cs x => ∃ A1 c1 lo1 hi1, cs = [.string (bs x.key), .slice A1 x.ops.length c1] ∧ OwnL w lo1 hi1 122 4 (RF e_Op) A1 x.ops.length c1 x.ops ∧ (l ≤ lo1 ∧ lo1 ≤ hi1 ∧ hi1 ≤ h)
theorem good_Task : Gd R_Task := ⟨fun ⟨A1, c1, he, h0⟩ hk => ⟨A1, c1, he, RdS.keep good_Op h0 hk⟩, fun ⟨A1, c1, he, h0⟩ hw => ⟨A1, c1, he, RdS.wide good_Op h0 hw⟩, fun ⟨A1, c1, he, h0⟩ => by rw [he]; rfl⟩
theorem goodO_Task : GdO RO_Task R_Task := ⟨fun ⟨A1, c1, lo1, hi1, he, h1, r0⟩ hk => ⟨A1, c1, lo1, hi1, he, OwnL.keep good_Op h1 (fun b b1 b2 b3 => hk b oM oM b3), r0⟩, fun ⟨A1, c1, lo1, hi1, he, h1, r0⟩ => by rw [he]; rfl, fun ⟨A1, c1, lo1, hi1, he, h1, r0⟩ => ⟨A1, c1, he, RdS.wide good_Op (OwnL.rdI good_Op h1) (fun b hb _ => ⟨by have := hb.1; omega, by have := hb.2; omega⟩)⟩⟩
theorem mkO_Task {w : World} {l h : Nat} {z0 : Str} {lo1 hi1 n1 c1 : Nat} {A1 : Option Addr} {y1 : List DOp} (h1 : OwnL w lo1 hi1 122 4 (RF e_Op) A1 n1 c1 y1) (r0 : (l ≤ lo1 ∧ lo1 ≤ hi1 ∧ hi1 ≤ h)) : RO_Task w l h [.string (bs z0), .slice A1 n1 c1] ⟨z0, y1⟩ := by
  obtain rfl := h1.1
  exact ⟨A1, c1, lo1, hi1, rfl, h1, r0⟩
structure DEntry where
  val : Str
  primary : Str
def d_Entry : DEntry := ⟨[], []⟩
def wf_Entry (x : DEntry) : Prop := wfS x.val ∧ wfS x.primary
def ok_Entry (x : DEntry) : Prop := okS x.val ∧ okS x.primary
theorem ok_d_Entry : ok_Entry d_Entry := ⟨ok_d_Str, ok_d_Str⟩
def e_Entry (x : DEntry) : List Value := [.string (bs x.val), .string (bs x.primary)]
theorem good_Entry : Gd (RF e_Entry) := RF.good fun _ => rfl
structure DBoundsError where
  x : Int
  y : Int
  signed : Bool
  code : Int
def d_BoundsError : DBoundsError := ⟨0, 0, false, 0⟩
def wf_BoundsError (x : DBoundsError) : Prop := wfI x.x ∧ wfI x.y ∧ wfI x.code
def e_BoundsError (x : DBoundsError) : List Value := [.int .i64 x.x, .int .i64 x.y, .bool x.signed, .int .u8 x.code]
theorem good_BoundsError : Gd (RF e_BoundsError) := RF.good fun _ => rfl
structure DErrorAddressString where
  msg : Str
  addr : Int
def d_ErrorAddressString : DErrorAddressString := ⟨[], 0⟩
def wf_ErrorAddressString (x : DErrorAddressString) : Prop := wfS x.msg ∧ wfI x.addr
def ok_ErrorAddressString (x : DErrorAddressString) : Prop := okS x.msg
theorem ok_d_ErrorAddressString : ok_ErrorAddressString d_ErrorAddressString := ok_d_Str
def e_ErrorAddressString (x : DErrorAddressString) : List Value := [.string (bs x.msg), .int .u64 x.addr]
theorem good_ErrorAddressString : Gd (RF e_ErrorAddressString) := RF.good fun _ => rfl
structure DRowAct where
  Kind : Int
  Old : DRow
  New : DRow
def d_RowAct : DRowAct := ⟨0, d_Row, d_Row⟩
def wf_RowAct (x : DRowAct) : Prop := wfI x.Kind ∧ wf_Row x.Old ∧ wf_Row x.New
def ok_RowAct (x : DRowAct) : Prop := ok_Row x.Old ∧ ok_Row x.New
theorem ok_d_RowAct : ok_RowAct d_RowAct := ⟨ok_d_Row, ok_d_Row⟩
def R_RowAct : Rel DRowAct := fun w S cs x => ∃ A1 c1 A2 c2, cs = [.int .i64 x.Kind, .slice A1 x.Old.Vals.length c1, .slice A2 x.New.Vals.length c2] ∧ RdS w S (RF e_Str) 1 A1 x.Old.Vals.length c1 x.Old.Vals ∧ RdS w S (RF e_Str) 1 A2 x.New.Vals.length c2 x.New.Vals
def RO_RowAct : RelO DRowAct := fun w l h cs x => ∃ A1 c1 lo1 hi1 A2 c2 lo2 hi2, cs = [.int .i64 x.Kind, .slice A1 x.Old.Vals.length c1, .slice A2 x.New.Vals.length c2] ∧ OwnL w lo1 hi1 9 1 (RF e_Str) A1 x.Old.Vals.length c1 x.Old.Vals ∧ OwnL w lo2 hi2 9 1 (RF e_Str) A2 x.New.Vals.length c2 x.New.Vals ∧ (l ≤ lo1 ∧ lo1 ≤ hi1 ∧ hi1 ≤ h) ∧ (l ≤ lo2 ∧ lo2 ≤ hi2 ∧ hi2 ≤ h) ∧ (hi1 ≤ lo2 ∨ hi2 ≤ lo1)
theorem good_RowAct : Gd R_RowAct := ⟨fun ⟨A1, c1, A2, c2, he, h0, h1⟩ hk => ⟨A1, c1, A2, c2, he, RdS.keep gS h0 hk, RdS.keep gS h1 hk⟩, fun ⟨A1, c1, A2, c2, he, h0, h1⟩ hw => ⟨A1, c1, A2, c2, he, RdS.wide gS h0 hw, RdS.wide gS h1 hw⟩, fun ⟨A1, c1, A2, c2, he, h0, h1⟩ => by rw [he]; rfl⟩
theorem goodO_RowAct : GdO RO_RowAct R_RowAct := ⟨fun ⟨A1, c1, lo1, hi1, A2, c2, lo2, hi2, he, h1, h2, r0, r1, r2⟩ hk => ⟨A1, c1, lo1, hi1, A2, c2, lo2, hi2, he, OwnL.keep gS h1 (fun b b1 b2 b3 => hk b oM oM b3), OwnL.keep gS h2 (fun b b1 b2 b3 => hk b oM oM b3), r0, r1, r2⟩, fun ⟨A1, c1, lo1, hi1, A2, c2, lo2, hi2, he, h1, h2, r0, r1, r2⟩ => by rw [he]; rfl, fun ⟨A1, c1, lo1, hi1, A2, c2, lo2, hi2, he, h1, h2, r0, r1, r2⟩ => ⟨A1, c1, A2, c2, he, RdS.wide gS (OwnL.rdI gS h1) (fun b hb _ => ⟨by have := hb.1; omega, by have := hb.2; omega⟩), RdS.wide gS (OwnL.rdI gS h2) (fun b hb _ => ⟨by have := hb.1; omega, by have := hb.2; omega⟩)⟩⟩
theorem mkO_RowAct {w : World} {l h : Nat} {z0 : Int} {lo1 hi1 n1 c1 : Nat} {A1 : Option Addr} {y1 : List Str} {lo2 hi2 n2 c2 : Nat} {A2 : Option Addr} {y2 : List Str} (h1 : OwnL w lo1 hi1 9 1 (RF e_Str) A1 n1 c1 y1) (h2 : OwnL w lo2 hi2 9 1 (RF e_Str) A2 n2 c2 y2) (r0 : (l ≤ lo1 ∧ lo1 ≤ hi1 ∧ hi1 ≤ h)) (r1 : (l ≤ lo2 ∧ lo2 ≤ hi2 ∧ hi2 ≤ h)) (r2 : (hi1 ≤ lo2 ∨ hi2 ≤ lo1)) : RO_RowAct w l h [.int .i64 z0, .slice A1 n1 c1, .slice A2 n2 c2] ⟨z0, ⟨y1⟩, ⟨y2⟩⟩ := by
  obtain rfl := h1.1; obtain rfl := h2.1
  exact ⟨A1, c1, lo1, hi1, A2, c2, lo2, hi2, rfl, h1, h2, r0, r1, r2⟩
structure DStmt where
  Kind : Int
  Act : DRowAct
  Idx : Str
  Low : Str
  High : Str
def d_Stmt : DStmt := ⟨0, d_RowAct, [], [], []⟩
def wf_Stmt (x : DStmt) : Prop := wfI x.Kind ∧ wf_RowAct x.Act ∧ wfS x.Idx ∧ wfS x.Low ∧ wfS x.High
def ok_Stmt (x : DStmt) : Prop := ok_RowAct x.Act ∧ okS x.Idx ∧ okS x.Low ∧ okS x.High
theorem ok_d_Stmt : ok_Stmt d_Stmt := ⟨ok_d_RowAct, ok_d_Str, ok_d_Str, ok_d_Str⟩
def R_Stmt : Rel DStmt := fun w S cs x => ∃ A1 c1 A2 c2, cs = [.int .i64 x.Kind, .int .i64 x.Act.Kind, .slice A1 x.Act.Old.Vals.length c1, .slice A2 x.Act.New.Vals.length c2, .string (bs x.Idx), .string (bs x.Low), .string (bs x.High)] ∧ RdS w S (RF e_Str) 1 A1 x.Act.Old.Vals.length c1 x.Act.Old.Vals ∧ RdS w S (RF e_Str) 1 A2 x.Act.New.Vals.length c2 x.Act.New.Vals
def RO_Stmt : RelO DStmt := fun w l h cs x => ∃ A1 c1 lo1 hi1 A2 c2 lo2 hi2, cs = [.int .i64 x.Kind, .int .i64 x.Act.Kind, .slice A1 x.Act.Old.Vals.length c1, .slice A2 x.Act.New.Vals.length c2, .string (bs x.Idx), .string (bs x.Low), .string (bs x.High)] ∧ OwnL w lo1 hi1 9 1 (RF e_Str) A1 x.Act.Old.Vals.length c1 x.Act.Old.Vals ∧ OwnL w lo2 hi2 9 1 (RF e_Str) A2 x.Act.New.Vals.length c2 x.Act.New.Vals ∧ (l ≤ lo1 ∧ lo1 ≤ hi1 ∧ hi1 ≤ h) ∧ (l ≤ lo2 ∧ lo2 ≤ hi2 ∧ hi2 ≤ h) ∧ (hi1 ≤ lo2 ∨ hi2 ≤ lo1)
theorem good_Stmt : Gd R_Stmt := ⟨fun ⟨A1, c1, A2, c2, he, h0, h1⟩ hk => ⟨A1, c1, A2, c2, he, RdS.keep gS h0 hk, RdS.keep gS h1 hk⟩, fun ⟨A1, c1, A2, c2, he, h0, h1⟩ hw => ⟨A1, c1, A2, c2, he, RdS.wide gS h0 hw, RdS.wide gS h1 hw⟩, fun ⟨A1, c1, A2, c2, he, h0, h1⟩ => by rw [he]; rfl⟩
theorem goodO_Stmt : GdO RO_Stmt R_Stmt := ⟨fun ⟨A1, c1, lo1, hi1, A2, c2, lo2, hi2, he, h1, h2, r0, r1, r2⟩ hk => ⟨A1, c1, lo1, hi1, A2, c2, lo2, hi2, he, OwnL.keep gS h1 (fun b b1 b2 b3 => hk b oM oM b3), OwnL.keep gS h2 (fun b b1 b2 b3 => hk b oM oM b3), r0, r1, r2⟩, fun ⟨A1, c1, lo1, hi1, A2, c2, lo2, hi2, he, h1, h2, r0, r1, r2⟩ => by rw [he]; rfl, fun ⟨A1, c1, lo1, hi1, A2, c2, lo2, hi2, he, h1, h2, r0, r1, r2⟩ => ⟨A1, c1, A2, c2, he, RdS.wide gS (OwnL.rdI gS h1) (fun b hb _ => ⟨by have := hb.1; omega, by have := hb.2; omega⟩), RdS.wide gS (OwnL.rdI gS h2) (fun b hb _ => ⟨by have := hb.1; omega, by have := hb.2; omega⟩)⟩⟩
theorem mkO_Stmt {w : World} {l h : Nat} {z0 : Int} {z1 : Int} {lo1 hi1 n1 c1 : Nat} {A1 : Option Addr} {y1 : List Str} {lo2 hi2 n2 c2 : Nat} {A2 : Option Addr} {y2 : List Str} {z4 : Str} {z5 : Str} {z6 : Str} (h1 : OwnL w lo1 hi1 9 1 (RF e_Str) A1 n1 c1 y1) (h2 : OwnL w lo2 hi2 9 1 (RF e_Str) A2 n2 c2 y2) (r0 : (l ≤ lo1 ∧ lo1 ≤ hi1 ∧ hi1 ≤ h)) (r1 : (l ≤ lo2 ∧ lo2 ≤ hi2 ∧ hi2 ≤ h)) (r2 : (hi1 ≤ lo2 ∨ hi2 ≤ lo1)) : RO_Stmt w l h [.int .i64 z0, .int .i64 z1, .slice A1 n1 c1, .slice A2 n2 c2, .string (bs z4), .string (bs z5), .string (bs z6)] ⟨z0, ⟨z1, ⟨y1⟩, ⟨y2⟩⟩, z4, z5, z6⟩ := by
  obtain rfl := h1.1; obtain rfl := h2.1
  exact ⟨A1, c1, lo1, hi1, A2, c2, lo2, hi2, rfl, h1, h2, r0, r1, r2⟩
structure DAcceptRange where
  lo : Int
  hi : Int
def d_AcceptRange : DAcceptRange := ⟨0, 0⟩
def wf_AcceptRange (x : DAcceptRange) : Prop := wfI x.lo ∧ wfI x.hi
def e_AcceptRange (x : DAcceptRange) : List Value := [.int .u8 x.lo, .int .u8 x.hi]
theorem good_AcceptRange : Gd (RF e_AcceptRange) := RF.good fun _ => rfl
structure DErrorString where
  s : Str
def d_ErrorString : DErrorString := ⟨[]⟩
def wf_ErrorString (x : DErrorString) : Prop := wfS x.s
def ok_ErrorString (x : DErrorString) : Prop := okS x.s
theorem ok_d_ErrorString : ok_ErrorString d_ErrorString := ok_d_Str
def e_ErrorString (x : DErrorString) : List Value := [.string (bs x.s)]
theorem good_ErrorString : Gd (RF e_ErrorString) := RF.good fun _ => rfl
def d_LOp : List DOp := []
def R_LOp : Rel (List DOp) := fun w S cs x => ∃ A1 c1, cs = [.slice A1 x.length c1] ∧ RdS w S (RF e_Op) 4 A1 x.length c1 x
theorem good_LOp : Gd R_LOp := ⟨fun ⟨A1, c1, he, h0⟩ hk => ⟨A1, c1, he, RdS.keep good_Op h0 hk⟩, fun ⟨A1, c1, he, h0⟩ hw => ⟨A1, c1, he, RdS.wide good_Op h0 hw⟩, fun ⟨A1, c1, he, h0⟩ => by rw [he]; rfl⟩
theorem ok_d_LOp : okL ok_Op d_LOp := okL.nil _
def B_l_szStringS_0 (p_a : List Str) (p_left : Int) (k3 : Nat) : Int → Out Int Int
  | (x4) => bif decide ((IntKind.wrap .i64 (x4 - ((p_a.getD k3 d_Str).length : Int))) < 0) then
      .ret (-1)
    else
      .cont (IntKind.wrap .i64 (x4 - ((p_a.getD k3 d_Str).length : Int)))
def l_szStringS (p_a : List Str) (p_left : Int) : Int :=
  bif decide ((IntKind.wrap .i64 (p_left - (p_a.length : Int))) < 0) then
    -1
  else
    loopE (loopM (B_l_szStringS_0 p_a p_left) (p_a.length - 0) 0 (IntKind.wrap .i64 (p_left - (p_a.length : Int)))) (fun r => r) (fun x4 =>
      x4)
def l_szIdx (p_a : DIdx) (p_left : Int) : Int :=
  bif decide ((IntKind.wrap .i64 (p_left - (p_a.Name.length : Int))) < 0) then
    -1
  else
    IntKind.wrap .i64 (p_left - (p_a.Name.length : Int))
def B_l_szIdxS_0 (p_a : List DIdx) (p_left : Int) (k3 : Nat) : Int → Out Int Int
  | (x4) => bif decide ((l_szIdx (p_a.getD k3 d_Idx) x4) < 0) then
      .ret (-1)
    else
      .cont ((l_szIdx (p_a.getD k3 d_Idx) x4))
def l_szIdxS (p_a : List DIdx) (p_left : Int) : Int :=
  bif decide ((IntKind.wrap .i64 (p_left - (p_a.length : Int))) < 0) then
    -1
  else
    loopE (loopM (B_l_szIdxS_0 p_a p_left) (p_a.length - 0) 0 (IntKind.wrap .i64 (p_left - (p_a.length : Int)))) (fun r => r) (fun x4 =>
      x4)
def l_szTable (p_a : DTable) (p_left : Int) : Int :=
  bif decide ((IntKind.wrap .i64 (p_left - (p_a.Name.length : Int))) < 0) then
    -1
  else
    bif decide ((l_szStringS p_a.Cols (IntKind.wrap .i64 (p_left - (p_a.Name.length : Int)))) < 0) then
      -1
    else
      bif decide ((l_szIdxS p_a.Idxs (l_szStringS p_a.Cols (IntKind.wrap .i64 (p_left - (p_a.Name.length : Int))))) < 0) then
        -1
      else
        (l_szIdxS p_a.Idxs (l_szStringS p_a.Cols (IntKind.wrap .i64 (p_left - (p_a.Name.length : Int)))))
def l_szWrite (p_a : DWrite) (p_left : Int) : Int :=
  bif decide ((IntKind.wrap .i64 (p_left - (p_a.Key.length : Int))) < 0) then
    -1
  else
    bif decide ((IntKind.wrap .i64 ((IntKind.wrap .i64 (p_left - (p_a.Key.length : Int))) - (p_a.Val.length : Int))) < 0) then
      -1
    else
      IntKind.wrap .i64 ((IntKind.wrap .i64 (p_left - (p_a.Key.length : Int))) - (p_a.Val.length : Int))
def B_l_szWriteS_0 (p_a : List DWrite) (p_left : Int) (k3 : Nat) : Int → Out Int Int
  | (x4) => bif decide ((l_szWrite (p_a.getD k3 d_Write) x4) < 0) then
      .ret (-1)
    else
      .cont ((l_szWrite (p_a.getD k3 d_Write) x4))
def l_szWriteS (p_a : List DWrite) (p_left : Int) : Int :=
  bif decide ((IntKind.wrap .i64 (p_left - (p_a.length : Int))) < 0) then
    -1
  else
    loopE (loopM (B_l_szWriteS_0 p_a p_left) (p_a.length - 0) 0 (IntKind.wrap .i64 (p_left - (p_a.length : Int)))) (fun r => r) (fun x4 =>
      x4)
def B_l_toStringS_0 (p_a : List Str) (k10 : Nat) : (List Str) → Out (List Str) (List Str)
  | (x18) => .cont ((x18.set k10 (p_a.getD k10 d_Str)))
def l_toStringS (p_a : List Str) : List Str :=
  loopE (loopM (B_l_toStringS_0 p_a) (p_a.length - 0) 0 ((List.replicate p_a.length d_Str))) (fun r => r) (fun x18 =>
    x18)
def l_toIdx (p_a : DIdx) : DIdx :=
  p_a
def B_l_toIdxS_0 (p_a : List DIdx) (k10 : Nat) : (List DIdx) → Out (List DIdx) (List DIdx)
  | (x21) => .cont ((x21.set k10 (p_a.getD k10 d_Idx)))
def l_toIdxS (p_a : List DIdx) : List DIdx :=
  loopE (loopM (B_l_toIdxS_0 p_a) (p_a.length - 0) 0 ((List.replicate p_a.length d_Idx))) (fun r => r) (fun x21 =>
    x21)
def l_toTable (p_a : DTable) : DTable :=
  p_a
def l_toWrite (p_a : DWrite) : DWrite :=
  p_a
def B_l_toWriteS_0 (p_a : List DWrite) (k10 : Nat) : (List DWrite) → Out (List DWrite) (List DWrite)
  | (x21) => .cont ((x21.set k10 (p_a.getD k10 d_Write)))
def l_toWriteS (p_a : List DWrite) : List DWrite :=
  loopE (loopM (B_l_toWriteS_0 p_a) (p_a.length - 0) 0 ((List.replicate p_a.length d_Write))) (fun r => r) (fun x21 =>
    x21)
def l_eqWrite (p_a : DWrite) (p_b : DWrite) : Bool :=
  bif p_a.Key == p_b.Key then
    bif p_a.Val == p_b.Val then
      bif p_a.Gone == p_b.Gone then
        true
      else
        false
    else
      false
  else
    false
def B_l_eqWriteS_0 (p_a : List DWrite) (p_b : List DWrite) (k4 : Nat) : Unit → Out Bool Unit
  | () => bif l_eqWrite (p_a.getD k4 d_Write) (p_b.getD k4 d_Write) then
      .cont ()
    else
      .ret false
def l_eqWriteS (p_a : List DWrite) (p_b : List DWrite) : Bool :=
  bif decide ((p_a.length : Int) = (p_b.length : Int)) then
    loopE (loopM (B_l_eqWriteS_0 p_a p_b) (p_a.length - 0) 0 ()) (fun r => r) (fun _ =>
      true)
  else
    false
def B_l_eqStringS_0 (p_a : List Str) (p_b : List Str) (k4 : Nat) : Unit → Out Bool Unit
  | () => bif (p_a.getD k4 d_Str) == (p_b.getD k4 d_Str) then
      .cont ()
    else
      .ret false
def l_eqStringS (p_a : List Str) (p_b : List Str) : Bool :=
  bif decide ((p_a.length : Int) = (p_b.length : Int)) then
    loopE (loopM (B_l_eqStringS_0 p_a p_b) (p_a.length - 0) 0 ()) (fun r => r) (fun _ =>
      true)
  else
    false
def l_eqIdx (p_a : DIdx) (p_b : DIdx) : Bool :=
  bif p_a.Name == p_b.Name then
    bif decide (p_a.Col = p_b.Col) then
      bif decide (p_a.Stage = p_b.Stage) then
        true
      else
        false
    else
      false
  else
    false
def B_l_eqIdxS_0 (p_a : List DIdx) (p_b : List DIdx) (k4 : Nat) : Unit → Out Bool Unit
  | () => bif l_eqIdx (p_a.getD k4 d_Idx) (p_b.getD k4 d_Idx) then
      .cont ()
    else
      .ret false
def l_eqIdxS (p_a : List DIdx) (p_b : List DIdx) : Bool :=
  bif decide ((p_a.length : Int) = (p_b.length : Int)) then
    loopE (loopM (B_l_eqIdxS_0 p_a p_b) (p_a.length - 0) 0 ()) (fun r => r) (fun _ =>
      true)
  else
    false
def l_eqTable (p_a : DTable) (p_b : DTable) : Bool :=
  bif p_a.Name == p_b.Name then
    bif l_eqStringS p_a.Cols p_b.Cols then
      bif l_eqIdxS p_a.Idxs p_b.Idxs then
        true
      else
        false
    else
      false
  else
    false
def B_l_markText_0 (p_k : Int) : Int × Str → Out Str (Int × Str)
  | (x15, x16) => bif decide (0 < x15) then
      .cont (IntKind.wrap .i64 (Int.tdiv x15 10), (toS ([IntKind.wrap .u8 (IntKind.wrap .i64 (48 + (Int.tmod x15 10)))] : List Int)) ++ x16)
    else
      .brk (x15, x16)
def l_markText (p_k : Int) : Str :=
  bif decide (p_k ≤ 0) then
    ([109, 48] : Str)
  else
    loopE (loopW (B_l_markText_0 p_k) ((((p_k).toNat + 1) / 2) + 1) (p_k, ([] : Str))) (fun r => r) (fun (x15, x16) =>
      ([109] : Str) ++ x16)
def B_l_markStringS_0 (p_a : List Str) (p_k : Int) (k3 : Nat) : Int × (List Str) → Out (Int × (List Str)) (Int × (List Str))
  | (x14, x15) => .cont (IntKind.wrap .i64 (x14 + 1), (x15.set k3 (l_markText x14)))
def l_markStringS (p_a : List Str) (p_k : Int) : Int × (List Str) :=
  loopE (loopM (B_l_markStringS_0 p_a p_k) (p_a.length - 0) 0 (p_k, p_a)) (fun r => r) (fun (x14, x15) =>
    (x14, x15))
def B_l_markIdxS_0 (p_a : List DIdx) (p_k : Int) (k3 : Nat) : Int × (List DIdx) → Out (Int × (List DIdx)) (Int × (List DIdx))
  | (x26, x27) => .cont (IntKind.wrap .i64 ((IntKind.wrap .i64 ((IntKind.wrap .i64 (x26 + 1)) + 1)) + 1), (x27.set k3 (⟨(l_markText x26), IntKind.wrap .i64 (x26 + 1), IntKind.wrap .i64 ((IntKind.wrap .i64 (x26 + 1)) + 1)⟩ : DIdx)))
def l_markIdxS (p_a : List DIdx) (p_k : Int) : Int × (List DIdx) :=
  loopE (loopM (B_l_markIdxS_0 p_a p_k) (p_a.length - 0) 0 (p_k, p_a)) (fun r => r) (fun (x26, x27) =>
    (x26, x27))
def l_markTable (p_a : DTable) (p_k : Int) : Int × DTable :=
  ((l_markIdxS p_a.Idxs ((l_markStringS p_a.Cols p_k).1)).1, (⟨p_a.Name, (l_markStringS p_a.Cols p_k).2, (l_markIdxS p_a.Idxs ((l_markStringS p_a.Cols p_k).1)).2⟩ : DTable))
def B_l_markWriteS_0 (p_a : List DWrite) (p_k : Int) (k3 : Nat) : Int × (List DWrite) → Out (Int × (List DWrite)) (Int × (List DWrite))
  | (x29, x30) => .cont (IntKind.wrap .i64 ((IntKind.wrap .i64 ((IntKind.wrap .i64 (x29 + 1)) + 1)) + 1), (x30.set k3 (⟨(l_markText x29), (l_markText (IntKind.wrap .i64 (x29 + 1))), decide ((Int.tmod (IntKind.wrap .i64 ((IntKind.wrap .i64 (x29 + 1)) + 1)) 3) = 0)⟩ : DWrite)))
def l_markWriteS (p_a : List DWrite) (p_k : Int) : Int × (List DWrite) :=
  loopE (loopM (B_l_markWriteS_0 p_a p_k) (p_a.length - 0) 0 (p_k, p_a)) (fun r => r) (fun (x29, x30) =>
    (x29, x30))
def B_l_heldWriteS_0 (p_a : List DWrite) (p_k : Int) (k2 : Nat) : Int → Out Int Int
  | (x3) => bif ((p_a.getD k2 d_Write).Key) == (l_markText x3) then
      bif ((p_a.getD k2 d_Write).Val) == (l_markText (IntKind.wrap .i64 (x3 + 1))) then
        bif ((p_a.getD k2 d_Write).Gone) == (decide ((Int.tmod (IntKind.wrap .i64 ((IntKind.wrap .i64 (x3 + 1)) + 1)) 3) = 0)) then
          .cont (IntKind.wrap .i64 ((IntKind.wrap .i64 ((IntKind.wrap .i64 (x3 + 1)) + 1)) + 1))
        else
          .ret (-1)
      else
        .ret (-1)
    else
      .ret (-1)
def l_heldWriteS (p_a : List DWrite) (p_k : Int) : Int :=
  loopE (loopM (B_l_heldWriteS_0 p_a p_k) (p_a.length - 0) 0 (p_k)) (fun r => r) (fun x3 =>
    x3)
def l_szFill (p_a : DFill) (p_left : Int) : Int :=
  bif decide ((IntKind.wrap .i64 (p_left - (p_a.Last.length : Int))) < 0) then
    -1
  else
    IntKind.wrap .i64 (p_left - (p_a.Last.length : Int))
def l_toFill (p_a : DFill) : DFill :=
  p_a
def l_eqFill (p_a : DFill) (p_b : DFill) : Bool :=
  bif p_a.Last == p_b.Last then
    bif p_a.Over == p_b.Over then
      true
    else
      false
  else
    false
def s_l1In (p_n : Int) (p_lo : Int) (p_hi : Int) : Bool :=
  bif decide (p_lo ≤ p_n) then
    decide (p_n ≤ p_hi)
  else
    false
def B_s_l3Bytes_1 (p_s : Str) (p_more : Str) (k3 : Nat) (k6 : Nat) : Bool → Out Bool Bool
  | (x7) => bif x7 then
      .cont (true)
    else
      .cont (decide (((p_s.getD k3 0).toNat : Int) = ((p_more.getD k6 0).toNat : Int)))
def B_s_l3Bytes_0 (p_s : Str) (p_more : Str) (k3 : Nat) : Unit → Out Bool Unit
  | () => bif decide (97 ≤ ((p_s.getD k3 0).toNat : Int)) then
      bif decide (((p_s.getD k3 0).toNat : Int) ≤ 122) then
        loopE (loopM (B_s_l3Bytes_1 p_s p_more k3) (p_more.length - 0) 0 (true)) (fun r => Out.ret r) (fun x7 =>
          bif x7 then
            .cont ()
          else
            .ret false)
      else
        bif decide (48 ≤ ((p_s.getD k3 0).toNat : Int)) then
          loopE (loopM (B_s_l3Bytes_1 p_s p_more k3) (p_more.length - 0) 0 (decide (((p_s.getD k3 0).toNat : Int) ≤ 57))) (fun r => Out.ret r) (fun x12 =>
            bif x12 then
              .cont ()
            else
              .ret false)
        else
          loopE (loopM (B_s_l3Bytes_1 p_s p_more k3) (p_more.length - 0) 0 (false)) (fun r => Out.ret r) (fun x15 =>
            bif x15 then
              .cont ()
            else
              .ret false)
    else
      bif decide (48 ≤ ((p_s.getD k3 0).toNat : Int)) then
        loopE (loopM (B_s_l3Bytes_1 p_s p_more k3) (p_more.length - 0) 0 (decide (((p_s.getD k3 0).toNat : Int) ≤ 57))) (fun r => Out.ret r) (fun x19 =>
          bif x19 then
            .cont ()
          else
            .ret false)
      else
        loopE (loopM (B_s_l3Bytes_1 p_s p_more k3) (p_more.length - 0) 0 (false)) (fun r => Out.ret r) (fun x22 =>
          bif x22 then
            .cont ()
          else
            .ret false)
def s_l3Bytes (p_s : Str) (p_more : Str) : Bool :=
  loopE (loopM (B_s_l3Bytes_0 p_s p_more) (p_s.length - 0) 0 ()) (fun r => r) (fun _ =>
    true)
def s_l3Key (p_s : Str) : Bool :=
  bif s_l1In (p_s.length : Int) 1 12 then
    (s_l3Bytes p_s ([46, 47] : Str))
  else
    false
def s_l3Val (p_s : Str) : Bool :=
  bif decide ((p_s.length : Int) ≤ 24) then
    (s_l3Bytes p_s ([46, 45, 44, 95] : Str))
  else
    false
def s_l3Write (p_key : Str) (p_val : Str) (p_gone : Bool) : Bool :=
  bif s_l3Key p_key then
    bif s_l3Val p_val then
      bif p_gone then
        p_val == ([] : Str)
      else
        true
    else
      false
  else
    false
def B_s_l3Writes_0 (p_l : List DWrite) (k3 : Nat) : Unit → Out Bool Unit
  | () => bif s_l3Write ((p_l.getD k3 d_Write).Key) ((p_l.getD k3 d_Write).Val) ((p_l.getD k3 d_Write).Gone) then
      bif decide (0 < (k3 : Int)) then
        bif sLt ((p_l.getD ((IntKind.wrap .i64 ((k3 : Int) - 1)).toNat) d_Write).Key) ((p_l.getD k3 d_Write).Key) then
          .cont ()
        else
          .ret false
      else
        .cont ()
    else
      .ret false
def s_l3Writes (p_l : List DWrite) : Bool :=
  loopE (loopM (B_s_l3Writes_0 p_l) (p_l.length - 0) 0 ()) (fun r => r) (fun _ =>
    decide ((p_l.length : Int) ≤ 24))
def B_s_l5Rows_0 (p_l : List DWrite) (k3 : Nat) : Unit → Out Bool Unit
  | () => bif (p_l.getD k3 d_Write).Gone then
      .ret false
    else
      .cont ()
def s_l5Rows (p_l : List DWrite) : Bool :=
  loopE (loopM (B_s_l5Rows_0 p_l) (p_l.length - 0) 0 ()) (fun r => r) (fun _ =>
    (s_l3Writes p_l))
def B_s_l24Letters_0 (p_s : Str) (p_most : Int) (k2 : Nat) : Unit → Out Bool Unit
  | () => bif decide (((p_s.getD k2 0).toNat : Int) < 97) then
      .ret false
    else
      bif decide (122 < ((p_s.getD k2 0).toNat : Int)) then
        .ret false
      else
        .cont ()
def s_l24Letters (p_s : Str) (p_most : Int) : Bool :=
  loopE (loopM (B_s_l24Letters_0 p_s p_most) (p_s.length - 0) 0 ()) (fun r => r) (fun _ =>
    bif decide (1 ≤ (p_s.length : Int)) then
      decide ((p_s.length : Int) ≤ p_most)
    else
      false)
def B_s_l24At_0 (p_l : List Str) (p_s : Str) (k4 : Nat) : Unit → Out Int Unit
  | () => bif (p_l.getD k4 d_Str) == p_s then
      .ret (k4 : Int)
    else
      .cont ()
def s_l24At (p_l : List Str) (p_s : Str) : Int :=
  loopE (loopM (B_s_l24At_0 p_l p_s) (p_l.length - 0) 0 ()) (fun r => r) (fun _ =>
    -1)
def B_s_l24Cols_0 (p_l : List Str) (k3 : Nat) : Unit → Out Bool Unit
  | () => bif s_l24Letters (p_l.getD k3 d_Str) 3 then
      bif decide (0 ≤ (s_l24At (p_l.take k3) (p_l.getD k3 d_Str))) then
        .ret false
      else
        .cont ()
    else
      .ret false
def s_l24Cols (p_l : List Str) : Bool :=
  loopE (loopM (B_s_l24Cols_0 p_l) (p_l.length - 0) 0 ()) (fun r => r) (fun _ =>
    (s_l1In (p_l.length : Int) 2 4))
def B_s_GoodTable_0 (p_0 : DTable) (k19 : Nat) : Unit → Out Bool Unit
  | () => bif s_l24Letters ((p_0.Idxs.getD k19 d_Idx).Name) 1 then
      bif s_l1In ((p_0.Idxs.getD k19 d_Idx).Col) 1 (IntKind.wrap .i64 ((p_0.Cols.length : Int) - 1)) then
        bif s_l1In ((p_0.Idxs.getD k19 d_Idx).Stage) 0 3 then
          bif decide (0 < (k19 : Int)) then
            bif sLt ((p_0.Idxs.getD ((IntKind.wrap .i64 ((k19 : Int) - 1)).toNat) d_Idx).Name) ((p_0.Idxs.getD k19 d_Idx).Name) then
              .cont ()
            else
              .ret false
          else
            .cont ()
        else
          .ret false
      else
        .ret false
    else
      .ret false
def s_GoodTable (p_0 : DTable) : Bool :=
  bif s_l24Letters p_0.Name 1 then
    bif s_l24Cols p_0.Cols then
      bif decide (3 < (p_0.Idxs.length : Int)) then
        false
      else
        loopE (loopM (B_s_GoodTable_0 p_0) (p_0.Idxs.length - 0) 0 ()) (fun r => r) (fun _ =>
          true)
    else
      false
  else
    false
def B_s_l24Idx_0 (p_t : DTable) (pn : Str) (k11 : Nat) : Unit → Out Int Unit
  | () => bif ((p_t.Idxs.getD k11 d_Idx).Name) == pn then
      .ret (k11 : Int)
    else
      .cont ()
def s_l24Idx (p_t : DTable) (pn : Str) : Int :=
  loopE (loopM (B_s_l24Idx_0 p_t pn) (p_t.Idxs.length - 0) 0 ()) (fun r => r) (fun _ =>
    -1)
def s_l25Asked (p_t : DTable) (pn : Str) (ps : List DWrite) : Bool :=
  bif s_GoodTable p_t then
    bif decide (0 ≤ (s_l24Idx p_t pn)) then
      (s_l5Rows ps)
    else
      false
  else
    false
def s_GoodFill (p_f : DFill) : Bool :=
  bif p_f.Last == ([] : Str) then
    true
  else
    (s_l3Key p_f.Last)
def s_l29Many (p_n : Int) : Bool :=
  (s_l1In p_n 1 24)
def s_l5Op (p_o : DOp) : Bool :=
  bif s_l3Key p_o.Key then
    bif decide (p_o.Kind = 2) then
      bif s_l3Val p_o.Val then
        decide (p_o.By = 0)
      else
        false
    else
      bif decide (p_o.Kind = 7) then
        bif s_l3Val p_o.Val then
          decide (p_o.By = 0)
        else
          false
      else
        bif decide (p_o.Kind = 4) then
          bif p_o.Val == ([] : Str) then
            (s_l1In p_o.By (-9999) 9999)
          else
            false
        else
          bif decide (p_o.Kind = 5) then
            bif p_o.Val == ([] : Str) then
              (s_l1In p_o.By (-9999) 9999)
            else
              false
          else
            bif decide (p_o.Kind = 1) then
              bif p_o.Val == ([] : Str) then
                decide (p_o.By = 0)
              else
                false
            else
              bif decide (p_o.Kind = 3) then
                bif p_o.Val == ([] : Str) then
                  decide (p_o.By = 0)
                else
                  false
              else
                bif decide (p_o.Kind = 6) then
                  bif p_o.Val == ([] : Str) then
                    decide (p_o.By = 0)
                  else
                    false
                else
                  false
  else
    false
def B_s_l5Good_0 (p_l : List DOp) (k3 : Nat) : Unit → Out Bool Unit
  | () => bif s_l5Op (p_l.getD k3 d_Op) then
      .cont ()
    else
      .ret false
def s_l5Good (p_l : List DOp) : Bool :=
  loopE (loopM (B_s_l5Good_0 p_l) (p_l.length - 0) 0 ()) (fun r => r) (fun _ =>
    decide ((p_l.length : Int) ≤ 8))
def B_s_l5PutW_0 (p_l : List DWrite) (p_w : DWrite) : Int → Out (List DWrite) Int
  | (x11) => bif decide (0 < x11) then
      bif sLe ((p_l.getD ((IntKind.wrap .i64 (x11 - 1)).toNat) d_Write).Key) p_w.Key then
        .brk (x11)
      else
        .cont (IntKind.wrap .i64 (x11 - 1))
    else
      .brk (x11)
def s_l5PutW (p_l : List DWrite) (p_w : DWrite) : List DWrite :=
  loopE (loopW (B_s_l5PutW_0 p_l p_w) ((((p_l.length : Int)).toNat) + 1) ((p_l.length : Int))) (fun r => r) (fun x11 =>
    bif decide (0 < x11) then
      bif ((p_l.getD ((IntKind.wrap .i64 (x11 - 1)).toNat) d_Write).Key) == p_w.Key then
        ((([] : List DWrite) ++ p_l).set ((IntKind.wrap .i64 (x11 - 1)).toNat) p_w)
      else
        (((([] : List DWrite) ++ (p_l.take ((x11).toNat))) ++ ([p_w] : List DWrite)) ++ (([] : List DWrite) ++ (p_l.drop ((x11).toNat))))
    else
      (((([] : List DWrite) ++ (p_l.take ((x11).toNat))) ++ ([p_w] : List DWrite)) ++ (([] : List DWrite) ++ (p_l.drop ((x11).toNat)))))
def B_s_l5Stands_0 (p_buf : List DWrite) (p_got : List DGot) (p_key : Str) (k6 : Nat) : Unit → Out (Str × Bool × Bool) Unit
  | () => bif ((p_buf.getD k6 d_Write).Key) == p_key then
      .ret ((p_buf.getD k6 d_Write).Val, !((p_buf.getD k6 d_Write).Gone), true)
    else
      .cont ()
def B_s_l5Stands_1 (p_buf : List DWrite) (p_got : List DGot) (p_key : Str) (k29 : Nat) : Unit → Out (Str × Bool × Bool) Unit
  | () => bif ((p_got.getD k29 d_Got).Key) == p_key then
      .ret ((p_got.getD k29 d_Got).Val, (p_got.getD k29 d_Got).There, true)
    else
      .cont ()
def s_l5Stands (p_buf : List DWrite) (p_got : List DGot) (p_key : Str) : Str × Bool × Bool :=
  loopE (loopM (B_s_l5Stands_0 p_buf p_got p_key) (p_buf.length - 0) 0 ()) (fun r => r) (fun _ =>
    loopE (loopM (B_s_l5Stands_1 p_buf p_got p_key) (p_got.length - 0) 0 ()) (fun r => r) (fun _ =>
      (([] : Str), false, false)))
def B_s_l1Read_0 (p_s : Str) (k8 : Nat) : Int → Out Int Int
  | (x9) => bif decide (((p_s.getD k8 0).toNat : Int) < 48) then
      .ret (-1)
    else
      bif decide (57 < ((p_s.getD k8 0).toNat : Int)) then
        .ret (-1)
      else
        .cont (IntKind.wrap .i64 ((IntKind.wrap .i64 (10 * x9)) + (IntKind.wrap .i64 (IntKind.wrap .u8 (((p_s.getD k8 0).toNat : Int) - 48)))))
def s_l1Read (p_s : Str) : Int :=
  bif s_l1In (p_s.length : Int) 1 6 then
    bif decide (((p_s.getD 0 0).toNat : Int) = 48) then
      bif decide (1 < (p_s.length : Int)) then
        -1
      else
        loopE (loopM (B_s_l1Read_0 p_s) (p_s.length - 0) 0 (0)) (fun r => r) (fun x9 =>
          x9)
    else
      loopE (loopM (B_s_l1Read_0 p_s) (p_s.length - 0) 0 (0)) (fun r => r) (fun x13 =>
        x13)
  else
    -1
def s_l5Num (p_s : Str) : Int × Bool :=
  bif decide (0 < (p_s.length : Int)) then
    bif decide (((p_s.getD 0 0).toNat : Int) = 45) then
      bif decide ((s_l1Read (p_s.drop 1)) < 0) then
        (0, false)
      else
        bif decide ((s_l1Read (p_s.drop 1)) = 0) then
          (0, false)
        else
          (IntKind.wrap .i64 (0 - (s_l1Read (p_s.drop 1))), true)
    else
      bif decide ((s_l1Read p_s) < 0) then
        (0, false)
      else
        ((s_l1Read p_s), true)
  else
    bif decide ((s_l1Read p_s) < 0) then
      (0, false)
    else
      ((s_l1Read p_s), true)
def s_l5Gives (p_o : DOp) (p_val : Str) (p_there : Bool) : Bool :=
  bif decide (p_o.Kind = 4) then
    bif p_there then
      bif (s_l5Num p_val).2 then
        !(s_l1In (IntKind.wrap .i64 (((s_l5Num p_val).1) + p_o.By)) (-999999) 999999)
      else
        true
    else
      false
  else
    bif decide (p_o.Kind = 5) then
      bif p_there then
        bif (s_l5Num p_val).2 then
          decide (((s_l5Num p_val).1) < p_o.By)
        else
          true
      else
        true
    else
      bif decide (p_o.Kind = 6) then
        p_there
      else
        bif decide (p_o.Kind = 7) then
          bif p_there then
            !(p_val == p_o.Val)
          else
            true
        else
          false
def s_l1Num (p_n : Int) : Str :=
  toS ([IntKind.wrap .u8 (IntKind.wrap .i64 (48 + p_n))] : List Int)
def s_l5Text (p_n : Int) : Str :=
  bif decide (p_n < 0) then
    ([45] : Str) ++ (s_l1Num (IntKind.wrap .i64 (0 - p_n)))
  else
    (s_l1Num p_n)
def B_s_l5Step_0 (p_0 : List DOp) (p_1 : List DGot) (k5 : Nat) : (List DWrite) → Out (Int × Str × (List DWrite)) (List DWrite)
  | (x174) => bif (s_l5Stands x174 p_1 ((p_0.getD k5 d_Op).Key)).2.2 then
      bif s_l5Gives (p_0.getD k5 d_Op) ((s_l5Stands x174 p_1 ((p_0.getD k5 d_Op).Key)).1) ((s_l5Stands x174 p_1 ((p_0.getD k5 d_Op).Key)).2.1) then
        .ret (2, ([] : Str), ([] : List DWrite))
      else
        bif decide (((p_0.getD k5 d_Op).Kind) = 2) then
          .cont ((s_l5PutW x174 (⟨(p_0.getD k5 d_Op).Key, (p_0.getD k5 d_Op).Val, false⟩ : DWrite)))
        else
          bif decide (((p_0.getD k5 d_Op).Kind) = 3) then
            .cont ((s_l5PutW x174 (⟨(p_0.getD k5 d_Op).Key, ([] : Str), true⟩ : DWrite)))
          else
            bif decide (((p_0.getD k5 d_Op).Kind) = 4) then
              bif (s_l5Stands x174 p_1 ((p_0.getD k5 d_Op).Key)).2.1 then
                .cont ((s_l5PutW x174 (⟨(p_0.getD k5 d_Op).Key, (s_l5Text (IntKind.wrap .i64 (((s_l5Num ((s_l5Stands x174 p_1 ((p_0.getD k5 d_Op).Key)).1)).1) + ((p_0.getD k5 d_Op).By)))), false⟩ : DWrite)))
              else
                .cont ((s_l5PutW x174 (⟨(p_0.getD k5 d_Op).Key, (s_l5Text (IntKind.wrap .i64 (0 + ((p_0.getD k5 d_Op).By)))), false⟩ : DWrite)))
            else
              .cont (x174)
    else
      bif decide (((p_0.getD k5 d_Op).Kind) = 2) then
        bif s_l5Gives (p_0.getD k5 d_Op) ((s_l5Stands x174 p_1 ((p_0.getD k5 d_Op).Key)).1) ((s_l5Stands x174 p_1 ((p_0.getD k5 d_Op).Key)).2.1) then
          .ret (2, ([] : Str), ([] : List DWrite))
        else
          .cont ((s_l5PutW x174 (⟨(p_0.getD k5 d_Op).Key, (p_0.getD k5 d_Op).Val, false⟩ : DWrite)))
      else
        bif decide (((p_0.getD k5 d_Op).Kind) = 3) then
          bif s_l5Gives (p_0.getD k5 d_Op) ((s_l5Stands x174 p_1 ((p_0.getD k5 d_Op).Key)).1) ((s_l5Stands x174 p_1 ((p_0.getD k5 d_Op).Key)).2.1) then
            .ret (2, ([] : Str), ([] : List DWrite))
          else
            .cont ((s_l5PutW x174 (⟨(p_0.getD k5 d_Op).Key, ([] : Str), true⟩ : DWrite)))
        else
          .ret (1, (p_0.getD k5 d_Op).Key, ([] : List DWrite))
def s_l5Step (p_0 : List DOp) (p_1 : List DGot) : Int × Str × (List DWrite) :=
  loopE (loopM (B_s_l5Step_0 p_0 p_1) (p_0.length - 0) 0 (([] : List DWrite))) (fun r => r) (fun x174 =>
    (3, ([] : Str), x174))
def B_s_l5Tell_0 (p_rows : List DWrite) (p_key : Str) (k10 : Nat) : Unit → Out DGot Unit
  | () => bif ((p_rows.getD k10 d_Write).Key) == p_key then
      .ret (⟨p_key, (p_rows.getD k10 d_Write).Val, true⟩ : DGot)
    else
      .cont ()
def s_l5Tell (p_rows : List DWrite) (p_key : Str) : DGot :=
  loopE (loopM (B_s_l5Tell_0 p_rows p_key) (p_rows.length - 0) 0 ()) (fun r => r) (fun _ =>
    (⟨p_key, ([] : Str), false⟩ : DGot))
def B_s_l5Alone_0 (p_rows : List DWrite) (p_l : List DOp) : (List DGot) → Out ((List DGot) × (List DWrite) × Bool) (List DGot)
  | (x38) => bif decide (((s_l5Step p_l x38).1) = 1) then
      .cont ((x38 ++ ([(s_l5Tell p_rows ((s_l5Step p_l x38).2.1))] : List DGot)))
    else
      .ret (x38, (s_l5Step p_l x38).2.2, decide (((s_l5Step p_l x38).1) = 3))
def s_l5Alone (p_rows : List DWrite) (p_l : List DOp) : (List DGot) × (List DWrite) × Bool :=
  loopE (loopW (B_s_l5Alone_0 p_rows p_l) (((p_l.filter fun o => !(([] : List DGot).any fun g => g.Key == o.Key)).length) + 1) (([] : List DGot))) (fun r => r) (fun x38 =>
    (([] : List DGot), ([] : List DWrite), false))
def B_s_l5PutRows_0 (p_rows : List DWrite) (p_w : List DWrite) (k26 : Nat) : (List DWrite) → Out (List DWrite) (List DWrite)
  | (x65) => .cont ((s_l5PutW x65 (p_w.getD k26 d_Write)))
def B_s_l5PutRows_1 (p_rows : List DWrite) (p_w : List DWrite) (x65 : List DWrite) (k88 : Nat) : (List DWrite) → Out (List DWrite) (List DWrite)
  | (x145) => bif (x65.getD k88 d_Write).Gone then
      .cont (x145)
    else
      .cont ((x145 ++ ([(x65.getD k88 d_Write)] : List DWrite)))
def s_l5PutRows (p_rows : List DWrite) (p_w : List DWrite) : List DWrite :=
  loopE (loopM (B_s_l5PutRows_0 p_rows p_w) (p_w.length - 0) 0 ((([] : List DWrite) ++ p_rows))) (fun r => r) (fun x65 =>
    loopE (loopM (B_s_l5PutRows_1 p_rows p_w x65) (x65.length - 0) 0 (([] : List DWrite))) (fun r => r) (fun x145 =>
      x145))
def B_s_RunInTurn_0 (p_0 : List DWrite) (p_1 : List (List DOp)) (k10 : Nat) : Unit → Out ((List DWrite) × (List Bool) × Bool) Unit
  | () => bif s_l5Good (p_1.getD k10 d_LOp) then
      .cont ()
    else
      .ret (([] : List DWrite), ([] : List Bool), false)
def B_s_RunInTurn_1 (p_0 : List DWrite) (p_1 : List (List DOp)) (k38 : Nat) : (List DWrite) × (List Bool) → Out ((List DWrite) × (List Bool) × Bool) ((List DWrite) × (List Bool))
  | (x119, x124) => bif (s_l5Alone x119 (p_1.getD k38 d_LOp)).2.2 then
      bif s_l5Rows (s_l5PutRows x119 ((s_l5Alone x119 (p_1.getD k38 d_LOp)).2.1)) then
        .cont ((s_l5PutRows x119 ((s_l5Alone x119 (p_1.getD k38 d_LOp)).2.1)), (x124 ++ ([(s_l5Rows (s_l5PutRows x119 ((s_l5Alone x119 (p_1.getD k38 d_LOp)).2.1)))] : List Bool)))
      else
        .cont (x119, (x124 ++ ([(s_l5Rows (s_l5PutRows x119 ((s_l5Alone x119 (p_1.getD k38 d_LOp)).2.1)))] : List Bool)))
    else
      .cont (x119, (x124 ++ ([false] : List Bool)))
def s_RunInTurn (p_0 : List DWrite) (p_1 : List (List DOp)) : (List DWrite) × (List Bool) × Bool :=
  bif s_l5Rows p_0 then
    bif decide (20 < (p_1.length : Int)) then
      (([] : List DWrite), ([] : List Bool), false)
    else
      loopE (loopM (B_s_RunInTurn_0 p_0 p_1) (p_1.length - 0) 0 ()) (fun r => r) (fun _ =>
        loopE (loopM (B_s_RunInTurn_1 p_0 p_1) (p_1.length - 0) 0 ((([] : List DWrite) ++ p_0), ([] : List Bool))) (fun r => r) (fun (x119, x124) =>
          (x119, x124, true)))
  else
    (([] : List DWrite), ([] : List Bool), false)
def s_l26Do (ps : List DWrite) (p_ops : List DOp) : (List DWrite) × Bool :=
  bif decide ((((s_RunInTurn ps ([p_ops] : List (List DOp))).2.1).length : Int) = 1) then
    ((s_RunInTurn ps ([p_ops] : List (List DOp))).1, (((s_RunInTurn ps ([p_ops] : List (List DOp))).2.1).getD 0 d_Bool))
  else
    ((s_RunInTurn ps ([p_ops] : List (List DOp))).1, false)
def B_s_l29Left_0 (p_keys : List Str) (p_last : Str) (k4 : Nat) : Unit → Out Bool Unit
  | () => bif sLe (p_keys.getD k4 d_Str) p_last then
      .cont ()
    else
      .ret true
def s_l29Left (p_keys : List Str) (p_last : Str) : Bool :=
  loopE (loopM (B_s_l29Left_0 p_keys p_last) (p_keys.length - 0) 0 ()) (fun r => r) (fun _ =>
    false)
def B_s_l24Join_0 (p_l : List Str) (p_by : Str) (k4 : Nat) : Str → Out Str Str
  | (x12) => bif decide (0 < (k4 : Int)) then
      .cont ((x12 ++ p_by) ++ (p_l.getD k4 d_Str))
    else
      .cont (x12 ++ (p_l.getD k4 d_Str))
def s_l24Join (p_l : List Str) (p_by : Str) : Str :=
  loopE (loopM (B_s_l24Join_0 p_l p_by) (p_l.length - 0) 0 (([] : Str))) (fun r => r) (fun x12 =>
    x12)
def s_l25Write (p_t : DTable) (p_r : DRow) : DWrite :=
  (⟨(p_t.Name ++ ([47] : Str)) ++ (p_r.Vals.getD 0 d_Str), (s_l24Join (p_r.Vals.drop 1) ([44] : Str)), false⟩ : DWrite)
def s_l25Field (p_s : Str) : Bool :=
  bif s_l1In (p_s.length : Int) 1 3 then
    (s_l3Bytes p_s ([] : Str))
  else
    false
def B_s_l25Good_0 (p_t : DTable) (p_r : DRow) (k18 : Nat) : Unit → Out Bool Unit
  | () => bif s_l25Field (p_r.Vals.getD k18 d_Str) then
      .cont ()
    else
      .ret false
def s_l25Good (p_t : DTable) (p_r : DRow) : Bool :=
  loopE (loopM (B_s_l25Good_0 p_t p_r) (p_r.Vals.length - 0) 0 ()) (fun r => r) (fun _ =>
    decide ((p_r.Vals.length : Int) = (p_t.Cols.length : Int)))
def B_s_l1Split_0 (p_s : Str) (p_b : Int) (k2 : Nat) : (List Str) × Int → Out (List Str) ((List Str) × Int)
  | (x20, x24) => bif decide (((p_s.getD k2 0).toNat : Int) = p_b) then
      .cont ((x20 ++ ([((p_s.take k2).drop ((x24).toNat))] : List Str)), ((k2 + 1 : Nat) : Int))
    else
      .cont (x20, x24)
def s_l1Split (p_s : Str) (p_b : Int) : List Str :=
  loopE (loopM (B_s_l1Split_0 p_s p_b) (p_s.length - 0) 0 (([] : List Str), 0)) (fun r => r) (fun (x20, x24) =>
    (x20 ++ ([(p_s.drop ((x24).toNat))] : List Str)))
def s_l25Read (p_t : DTable) (p_w : DWrite) : DRow × Bool :=
  bif decide ((p_w.Key.length : Int) < 3) then
    ((⟨[]⟩ : DRow), false)
  else
    bif s_l25Good p_t (⟨(([(p_w.Key.drop 2)] : List Str) ++ (s_l1Split p_w.Val 44))⟩ : DRow) then
      ((⟨(([(p_w.Key.drop 2)] : List Str) ++ (s_l1Split p_w.Val 44))⟩ : DRow), ((((s_l25Write p_t (⟨(([(p_w.Key.drop 2)] : List Str) ++ (s_l1Split p_w.Val 44))⟩ : DRow)).Key) == p_w.Key) && ((((s_l25Write p_t (⟨(([(p_w.Key.drop 2)] : List Str) ++ (s_l1Split p_w.Val 44))⟩ : DRow)).Val) == p_w.Val) && (((s_l25Write p_t (⟨(([(p_w.Key.drop 2)] : List Str) ++ (s_l1Split p_w.Val 44))⟩ : DRow)).Gone) == p_w.Gone))))
    else
      ((⟨(([(p_w.Key.drop 2)] : List Str) ++ (s_l1Split p_w.Val 44))⟩ : DRow), false)
def B_s_l25Rows_0 (p_t : DTable) (ps : List DWrite) (k12 : Nat) : (List DRow) → Out (List DRow) (List DRow)
  | (x94) => bif (s_l25Read p_t (ps.getD k12 d_Write)).2 then
      .cont ((x94 ++ ([(s_l25Read p_t (ps.getD k12 d_Write)).1] : List DRow)))
    else
      .cont (x94)
def s_l25Rows (p_t : DTable) (ps : List DWrite) : List DRow :=
  loopE (loopM (B_s_l25Rows_0 p_t ps) (ps.length - 0) 0 (([] : List DRow))) (fun r => r) (fun x94 =>
    x94)
def s_l25Entry (p_t : DTable) (p_x : DIdx) (p_r : DRow) : Str :=
  (((((p_t.Name ++ ([46] : Str)) ++ p_x.Name) ++ ([47] : Str)) ++ (p_r.Vals.getD ((p_x.Col).toNat) d_Str)) ++ ([47] : Str)) ++ (p_r.Vals.getD 0 d_Str)
def s_l26Fill (p_t : DTable) (p_x : DIdx) (p_r : DRow) : List DOp :=
  ([(⟨7, (s_l25Write p_t p_r).Key, (s_l25Write p_t p_r).Val, 0⟩ : DOp), (⟨2, (s_l25Entry p_t p_x p_r), ([] : Str), 0⟩ : DOp)] : List DOp)
def B_s_l29RowKeys_0 (p_t : DTable) (ps : List DWrite) (k18 : Nat) : (List Str) → Out (List Str) (List Str)
  | (x78) => .cont ((x78 ++ ([(s_l25Write p_t ((s_l25Rows p_t ps).getD k18 d_Row)).Key] : List Str)))
def s_l29RowKeys (p_t : DTable) (ps : List DWrite) : List Str :=
  loopE (loopM (B_s_l29RowKeys_0 p_t ps) ((s_l25Rows p_t ps).length - 0) 0 (([] : List Str))) (fun r => r) (fun x78 =>
    x78)
def B_s_l29Fill_0 (p_0 : DTable) (p_1 : Str) (p_2 : List DWrite) (p_3 : DFill) (p_4 : Int) (k59 : Nat) : Int × (List DWrite) × Str → Out ((List DWrite) × DFill) (Int × (List DWrite) × Str)
  | (x136, x137, x142) => bif decide (x136 = 0) then
      .cont (x136, x137, x142)
    else
      bif sLe ((s_l25Write p_0 ((s_l25Rows p_0 p_2).getD k59 d_Row)).Key) x142 then
        .cont (x136, x137, x142)
      else
        bif (s_l26Do x137 (s_l26Fill p_0 (p_0.Idxs.getD (((s_l24Idx p_0 p_1)).toNat) d_Idx) ((s_l25Rows p_0 p_2).getD k59 d_Row))).2 then
          .cont (IntKind.wrap .i64 (x136 - 1), (s_l26Do x137 (s_l26Fill p_0 (p_0.Idxs.getD (((s_l24Idx p_0 p_1)).toNat) d_Idx) ((s_l25Rows p_0 p_2).getD k59 d_Row))).1, (s_l25Write p_0 ((s_l25Rows p_0 p_2).getD k59 d_Row)).Key)
        else
          .brk (x136, x137, x142)
def s_l29Fill (p_0 : DTable) (p_1 : Str) (p_2 : List DWrite) (p_3 : DFill) (p_4 : Int) : (List DWrite) × DFill :=
  loopE (loopM (B_s_l29Fill_0 p_0 p_1 p_2 p_3 p_4) ((s_l25Rows p_0 p_2).length - 0) 0 (p_4, (([] : List DWrite) ++ p_2), p_3.Last)) (fun r => r) (fun (x136, x137, x142) =>
    bif p_3.Over then
      (x137, (⟨x142, true⟩ : DFill))
    else
      (x137, (⟨x142, !(s_l29Left (s_l29RowKeys p_0 x137) x142)⟩ : DFill)))
def s_FillPiece (p_t : DTable) (pn : Str) (ps : List DWrite) (p_f : DFill) (p_many : Int) : (List DWrite) × DFill × Bool :=
  bif s_l25Asked p_t pn ps then
    bif s_GoodFill p_f then
      bif s_l29Many p_many then
        ((s_l29Fill p_t pn ps p_f p_many).1, (s_l29Fill p_t pn ps p_f p_many).2, true)
      else
        (([] : List DWrite), (⟨([] : Str), false⟩ : DFill), false)
    else
      (([] : List DWrite), (⟨([] : Str), false⟩ : DFill), false)
  else
    (([] : List DWrite), (⟨([] : Str), false⟩ : DFill), false)
def B_g_slices_IndexFunc_Write_0 (p_s : List DWrite) (p_f : DWrite → Bool) (k7 : Nat) : Unit → Out Int Unit
  | () => bif p_f (p_s.getD k7 d_Write) then
      .ret (k7 : Int)
    else
      .cont ()
def g_slices_IndexFunc_Write (p_s : List DWrite) (p_f : DWrite → Bool) : Int :=
  loopE (loopM (B_g_slices_IndexFunc_Write_0 p_s p_f) (p_s.length - 0) 0 ()) (fun r => r) (fun _ =>
    -1)
def g_slices_ContainsFunc_Write (p_s : List DWrite) (p_f : DWrite → Bool) : Bool :=
  decide (0 ≤ (g_slices_IndexFunc_Write p_s p_f))
def i_within (p_n : Int) (p_low : Int) (p_high : Int) : Bool :=
  bif decide (p_low ≤ p_n) then
    decide (p_n ≤ p_high)
  else
    false
def i_isLowerOrDigit (p_b : Int) : Bool :=
  bif decide (97 ≤ p_b) then
    bif decide (p_b ≤ 122) then
      true
    else
      bif decide (48 ≤ p_b) then
        decide (p_b ≤ 57)
      else
        false
  else
    bif decide (48 ≤ p_b) then
      decide (p_b ≤ 57)
    else
      false
def g_internal_stringslite_IndexByte (p_s : Str) (p_c : Int) : Int :=
  idxB p_s p_c
def g_strings_IndexByte (p_s : Str) (p_c : Int) : Int :=
  (g_internal_stringslite_IndexByte p_s p_c)
def B_i_hasBytes_0 (p_s : Str) (p_others : Str) (k3 : Nat) : Unit → Out Bool Unit
  | () => bif i_isLowerOrDigit ((p_s.getD k3 0).toNat : Int) then
      .cont ()
    else
      bif decide ((g_strings_IndexByte p_others ((p_s.getD k3 0).toNat : Int)) < 0) then
        .ret false
      else
        .cont ()
def i_hasBytes (p_s : Str) (p_others : Str) : Bool :=
  loopE (loopM (B_i_hasBytes_0 p_s p_others) (p_s.length - 0) 0 ()) (fun r => r) (fun _ =>
    true)
def i_GoodKey (p_s : Str) : Bool :=
  bif i_within (p_s.length : Int) 1 12 then
    (i_hasBytes p_s ([46, 47] : Str))
  else
    false
def B_i_areRising_0 (p_keys : List Str) (k3 : Nat) : Unit → Out Bool Unit
  | () => bif i_GoodKey (p_keys.getD k3 d_Str) then
      bif decide (0 < (k3 : Int)) then
        bif sLe (p_keys.getD k3 d_Str) (p_keys.getD ((IntKind.wrap .i64 ((k3 : Int) - 1)).toNat) d_Str) then
          .ret false
        else
          .cont ()
      else
        .cont ()
    else
      .ret false
def i_areRising (p_keys : List Str) : Bool :=
  loopE (loopM (B_i_areRising_0 p_keys) (p_keys.length - 0) 0 ()) (fun r => r) (fun _ =>
    true)
def B_i_writeKeys_0 (p_l : List DWrite) (k10 : Nat) : (List Str) → Out (List Str) (List Str)
  | (x60) => .cont ((x60 ++ ([(p_l.getD k10 d_Write).Key] : List Str)))
def i_writeKeys (p_l : List DWrite) : List Str :=
  loopE (loopM (B_i_writeKeys_0 p_l) (p_l.length - 0) 0 (([] : List Str))) (fun r => r) (fun x60 =>
    x60)
def i_GoodVal (p_s : Str) : Bool :=
  bif decide ((p_s.length : Int) ≤ 24) then
    (i_hasBytes p_s ([46, 45, 44, 95] : Str))
  else
    false
def i_isStored (p_val : Str) (p_gone : Bool) : Bool :=
  bif i_GoodVal p_val then
    bif p_gone then
      !(!(p_val == ([] : Str)))
    else
      !false
  else
    false
def i_GoodWrites_c1 (p_w : DWrite) : Bool :=
  !(i_isStored p_w.Val p_w.Gone)
def i_GoodWrites (p_l : List DWrite) : Bool :=
  bif decide ((p_l.length : Int) ≤ 24) then
    bif i_areRising (i_writeKeys p_l) then
      !(g_slices_ContainsFunc_Write p_l (fun y0 => i_GoodWrites_c1 y0))
    else
      false
  else
    false
def i_isRows_c1 (p_w : DWrite) : Bool :=
  p_w.Gone
def i_isRows (p_rows : List DWrite) : Bool :=
  bif i_GoodWrites p_rows then
    !(g_slices_ContainsFunc_Write p_rows (fun y0 => i_isRows_c1 y0))
  else
    false
def B_i_areLetters_0 (p_s : Str) (p_most : Int) (k2 : Nat) : Unit → Out Bool Unit
  | () => bif decide (((p_s.getD k2 0).toNat : Int) < 97) then
      .ret false
    else
      bif decide (122 < ((p_s.getD k2 0).toNat : Int)) then
        .ret false
      else
        .cont ()
def i_areLetters (p_s : Str) (p_most : Int) : Bool :=
  loopE (loopM (B_i_areLetters_0 p_s p_most) (p_s.length - 0) 0 ()) (fun r => r) (fun _ =>
    (i_within (p_s.length : Int) 1 p_most))
def B_g_slices_Index_string_0 (p_s : List Str) (p_v : Str) (k4 : Nat) : Unit → Out Int Unit
  | () => bif p_v == (p_s.getD k4 d_Str) then
      .ret (k4 : Int)
    else
      .cont ()
def g_slices_Index_string (p_s : List Str) (p_v : Str) : Int :=
  loopE (loopM (B_g_slices_Index_string_0 p_s p_v) (p_s.length - 0) 0 ()) (fun r => r) (fun _ =>
    -1)
def g_slices_Contains_string (p_s : List Str) (p_v : Str) : Bool :=
  decide (0 ≤ (g_slices_Index_string p_s p_v))
def i_isStage (p_stage : Int) : Bool :=
  (i_within p_stage 0 3)
def B_i_GoodTable_0 (p_0 : DTable) (k19 : Nat) : Unit → Out Bool Unit
  | () => bif i_areLetters (p_0.Cols.getD k19 d_Str) 3 then
      bif g_slices_Contains_string (p_0.Cols.take k19) (p_0.Cols.getD k19 d_Str) then
        .ret false
      else
        .cont ()
    else
      .ret false
def B_i_GoodTable_1 (p_0 : DTable) (k35 : Nat) : Unit → Out Bool Unit
  | () => bif i_areLetters ((p_0.Idxs.getD k35 d_Idx).Name) 1 then
      bif i_within ((p_0.Idxs.getD k35 d_Idx).Col) 1 (IntKind.wrap .i64 ((p_0.Cols.length : Int) - 1)) then
        bif i_isStage ((p_0.Idxs.getD k35 d_Idx).Stage) then
          bif decide (0 < (k35 : Int)) then
            bif sLe ((p_0.Idxs.getD k35 d_Idx).Name) ((p_0.Idxs.getD ((IntKind.wrap .i64 ((k35 : Int) - 1)).toNat) d_Idx).Name) then
              .ret false
            else
              .cont ()
          else
            .cont ()
        else
          .ret false
      else
        .ret false
    else
      .ret false
def i_GoodTable (p_0 : DTable) : Bool :=
  bif i_areLetters p_0.Name 1 then
    bif i_within (p_0.Cols.length : Int) 2 4 then
      bif decide (3 < (p_0.Idxs.length : Int)) then
        false
      else
        loopE (loopM (B_i_GoodTable_0 p_0) (p_0.Cols.length - 0) 0 ()) (fun r => r) (fun _ =>
          loopE (loopM (B_i_GoodTable_1 p_0) (p_0.Idxs.length - 0) 0 ()) (fun r => r) (fun _ =>
            true))
    else
      false
  else
    false
def B_g_slices_IndexFunc_Idx_0 (p_s : List DIdx) (p_f : DIdx → Bool) (k7 : Nat) : Unit → Out Int Unit
  | () => bif p_f (p_s.getD k7 d_Idx) then
      .ret (k7 : Int)
    else
      .cont ()
def g_slices_IndexFunc_Idx (p_s : List DIdx) (p_f : DIdx → Bool) : Int :=
  loopE (loopM (B_g_slices_IndexFunc_Idx_0 p_s p_f) (p_s.length - 0) 0 ()) (fun r => r) (fun _ =>
    -1)
def i_Table_findIdx_c1 (p_x : DIdx) (p_cap0 : Str) : Bool :=
  p_x.Name == p_cap0
def i_Table_findIdx (p_t : DTable) (pn : Str) : Int :=
  (g_slices_IndexFunc_Idx p_t.Idxs (fun y0 => i_Table_findIdx_c1 y0 pn))
def i_hasIdx (p_t : DTable) (pn : Str) : Bool :=
  bif i_GoodTable p_t then
    decide (0 ≤ (i_Table_findIdx p_t pn))
  else
    false
def i_isIdxStore (p_t : DTable) (pn : Str) (ps : List DWrite) : Bool :=
  bif i_hasIdx p_t pn then
    (i_isRows ps)
  else
    false
def i_GoodFill (p_f : DFill) : Bool :=
  bif p_f.Last == ([] : Str) then
    true
  else
    (i_GoodKey p_f.Last)
def i_arePiece (p_t : DTable) (pn : Str) (ps : List DWrite) (p_f : DFill) (p_many : Int) : Bool :=
  bif i_isIdxStore p_t pn ps then
    bif i_GoodFill p_f then
      (i_within p_many 1 24)
    else
      false
  else
    false
def B_g_slices_BinarySearchFunc_string_0 (p_x : List DWrite) (p_target : Str) (p_cmp : DWrite → Str → Int) : Int × Int → Out (Int × Bool) (Int × Int)
  | (x9, x10) => bif decide (x9 < x10) then
      bif decide ((p_cmp (p_x.getD ((IntKind.wrap .i64 (Int.fdiv (IntKind.wrap .u64 (IntKind.wrap .i64 (x9 + x10))) 2)).toNat) d_Write) p_target) < 0) then
        .cont (IntKind.wrap .i64 ((IntKind.wrap .i64 (Int.fdiv (IntKind.wrap .u64 (IntKind.wrap .i64 (x9 + x10))) 2)) + 1), x10)
      else
        .cont (x9, IntKind.wrap .i64 (Int.fdiv (IntKind.wrap .u64 (IntKind.wrap .i64 (x9 + x10))) 2))
    else
      .brk (x9, x10)
def g_slices_BinarySearchFunc_string (p_x : List DWrite) (p_target : Str) (p_cmp : DWrite → Str → Int) : Int × Bool :=
  loopE (loopW (B_g_slices_BinarySearchFunc_string_0 p_x p_target p_cmp) ((((p_x.length : Int) - 0).toNat) + 1) (0, (p_x.length : Int))) (fun r => r) (fun (x9, x10) =>
    bif decide (x9 < (p_x.length : Int)) then
      (x9, decide ((p_cmp (p_x.getD ((x9).toNat) d_Write) p_target) = 0))
    else
      (x9, false))
def g_cmp_isNaN_string (p_x : Str) : Bool :=
  !(p_x == p_x)
def g_cmp_Compare_string (p_x : Str) (p_y : Str) : Int :=
  bif g_cmp_isNaN_string p_x then
    bif g_cmp_isNaN_string p_y then
      0
    else
      -1
  else
    bif g_cmp_isNaN_string p_y then
      1
    else
      bif sLt p_x p_y then
        -1
      else
        bif sLe p_x p_y then
          0
        else
          1
def i_findWrite_c1 (p_w : DWrite) (p_key : Str) : Int :=
  (g_cmp_Compare_string p_w.Key p_key)
def i_findWrite (p_l : List DWrite) (p_key : Str) : Int × Bool :=
  ((g_slices_BinarySearchFunc_string p_l p_key (fun y0 y1 => i_findWrite_c1 y0 y1)).1, (g_slices_BinarySearchFunc_string p_l p_key (fun y0 y1 => i_findWrite_c1 y0 y1)).2)
def insWrite (p_s : List DWrite) (p_i : Nat) (p_x : DWrite) : List DWrite := p_s.take p_i ++ p_x :: p_s.drop p_i
def g_slices_Insert_Write (p_s : List DWrite) (p_i : Int) (p_x : DWrite) : List DWrite := insWrite p_s p_i.toNat p_x
def i_putWrite (p_l : List DWrite) (p_w : DWrite) : List DWrite :=
  bif (i_findWrite p_l p_w.Key).2 then
    (p_l.set (((i_findWrite p_l p_w.Key).1).toNat) p_w)
  else
    (g_slices_Insert_Write p_l ((i_findWrite p_l p_w.Key).1) p_w)
def B_i_current_0 (p_key : Str) (p_writes : List DWrite) (p_got : List DGot) (k12 : Nat) : Unit → Out (Str × Bool × Bool) Unit
  | () => bif ((p_got.getD k12 d_Got).Key) == p_key then
      .ret ((p_got.getD k12 d_Got).Val, (p_got.getD k12 d_Got).There, true)
    else
      .cont ()
def i_current (p_key : Str) (p_writes : List DWrite) (p_got : List DGot) : Str × Bool × Bool :=
  bif (i_findWrite p_writes p_key).2 then
    ((p_writes.getD (((i_findWrite p_writes p_key).1).toNat) d_Write).Val, !((p_writes.getD (((i_findWrite p_writes p_key).1).toNat) d_Write).Gone), true)
  else
    loopE (loopM (B_i_current_0 p_key p_writes p_got) (p_got.length - 0) 0 ()) (fun r => r) (fun _ =>
      (([] : Str), false, false))
def i_NumberIn (p_s : Str) : Int × Bool := match Go.Lib.atoiAll p_s with
  | .ok n => bif i_within n (-999999) 999999 && (Go.Lib.itoa n == p_s) then (n, true) else (0, false)
  | _ => (0, false)
def i_Op_holds (p_o : DOp) (p_val : Str) (p_there : Bool) : Bool :=
  bif decide (p_o.Kind = 4) then
    bif p_there then
      bif (i_NumberIn p_val).2 then
        (i_within (IntKind.wrap .i64 (((i_NumberIn p_val).1) + p_o.By)) (-999999) 999999)
      else
        false
    else
      true
  else
    bif decide (p_o.Kind = 5) then
      bif p_there then
        bif (i_NumberIn p_val).2 then
          decide (p_o.By ≤ ((i_NumberIn p_val).1))
        else
          false
      else
        false
    else
      bif decide (p_o.Kind = 6) then
        !p_there
      else
        bif decide (p_o.Kind = 7) then
          bif p_there then
            p_val == p_o.Val
          else
            false
        else
          true
def g_strconv_Itoa (p_i : Int) : Str := [(48 + p_i).toNat.toUInt8]
def B_i_stepOps_0 (p_0 : List DOp) (p_1 : List DGot) (k12 : Nat) : (List DWrite) → Out (Int × Str × (List DWrite)) (List DWrite)
  | (x86) => bif decide (((p_0.getD k12 d_Op).Kind) = 2) then
      .cont ((i_putWrite x86 (⟨(p_0.getD k12 d_Op).Key, (p_0.getD k12 d_Op).Val, false⟩ : DWrite)))
    else
      bif decide (((p_0.getD k12 d_Op).Kind) = 3) then
        .cont ((i_putWrite x86 (⟨(p_0.getD k12 d_Op).Key, ([] : Str), true⟩ : DWrite)))
      else
        bif (i_current ((p_0.getD k12 d_Op).Key) x86 p_1).2.2 then
          bif i_Op_holds (p_0.getD k12 d_Op) ((i_current ((p_0.getD k12 d_Op).Key) x86 p_1).1) ((i_current ((p_0.getD k12 d_Op).Key) x86 p_1).2.1) then
            .cont (x86)
          else
            .ret (2, ([] : Str), ([] : List DWrite))
        else
          .ret (1, (p_0.getD k12 d_Op).Key, ([] : List DWrite))
def i_stepOps (p_0 : List DOp) (p_1 : List DGot) : Int × Str × (List DWrite) :=
  loopE (loopM (B_i_stepOps_0 p_0 p_1) (p_0.length - 0) 0 (([] : List DWrite))) (fun r => r) (fun x86 =>
    (3, ([] : Str), x86))
def i_gotOf (p_rows : List DWrite) (p_key : Str) : DGot :=
  bif (i_findWrite p_rows p_key).2 then
    (⟨p_key, (p_rows.getD (((i_findWrite p_rows p_key).1).toNat) d_Write).Val, true⟩ : DGot)
  else
    (⟨p_key, ([] : Str), false⟩ : DGot)
def B_i_runAlone_0 (p_rows : List DWrite) (p_l : List DOp) : (List DGot) → Out ((List DGot) × (List DWrite) × Bool) (List DGot)
  | (x45) => bif decide (((i_stepOps p_l x45).1) = 1) then
      .cont ((x45 ++ ([(i_gotOf p_rows ((i_stepOps p_l x45).2.1))] : List DGot)))
    else
      .ret (x45, (i_stepOps p_l x45).2.2, decide (((i_stepOps p_l x45).1) = 3))
def i_runAlone (p_rows : List DWrite) (p_l : List DOp) : (List DGot) × (List DWrite) × Bool :=
  loopE (loopW (B_i_runAlone_0 p_rows p_l) (((p_l.filter fun o => !((([] : List DGot) : List DGot).any fun g => g.Key == o.Key)).length) + 1) (([] : List DGot))) (fun r => r) (fun x45 =>
    (([] : List DGot), ([] : List DWrite), false))
def g_slices_Clone_Write (p_s : List DWrite) : List DWrite :=
  (([] : List DWrite) ++ p_s)
def g_slices_DeleteFunc_Write (p_s : List DWrite) (p_f : DWrite → Bool) : List DWrite := p_s.filter fun y => !p_f y
def i_putRows_c1 (p_x : DWrite) : Bool :=
  p_x.Gone
def B_i_putRows_0 (p_rows : List DWrite) (p_w : List DWrite) (k12 : Nat) : (List DWrite) → Out ((List DWrite) × Bool) (List DWrite)
  | (x48) => .cont ((i_putWrite x48 (p_w.getD k12 d_Write)))
def i_putRows (p_rows : List DWrite) (p_w : List DWrite) : (List DWrite) × Bool :=
  loopE (loopM (B_i_putRows_0 p_rows p_w) (p_w.length - 0) 0 ((g_slices_Clone_Write p_rows))) (fun r => r) (fun x48 =>
    bif decide (24 < ((g_slices_DeleteFunc_Write x48 (fun y0 => i_putRows_c1 y0)).length : Int)) then
      (([] : List DWrite), false)
    else
      ((g_slices_DeleteFunc_Write x48 (fun y0 => i_putRows_c1 y0)), true))
def i_runOps (ps : List DWrite) (p_ops : List DOp) : (List DWrite) × Bool :=
  bif (i_runAlone ps p_ops).2.2 then
    bif (i_putRows ps ((i_runAlone ps p_ops).2.1)).2 then
      ((i_putRows ps ((i_runAlone ps p_ops).2.1)).1, true)
    else
      ((([] : List DWrite) ++ ps), false)
  else
    ((([] : List DWrite) ++ ps), false)
def B_g_slices_IndexFunc_task_0 (p_s : List DTask) (p_f : DTask → Bool) (k8 : Nat) : Unit → Out Int Unit
  | () => bif p_f (p_s.getD k8 d_Task) then
      .ret (k8 : Int)
    else
      .cont ()
def g_slices_IndexFunc_task (p_s : List DTask) (p_f : DTask → Bool) : Int :=
  loopE (loopM (B_g_slices_IndexFunc_task_0 p_s p_f) (p_s.length - 0) 0 ()) (fun r => r) (fun _ =>
    -1)
def g_slices_DeleteFunc_task (p_s : List DTask) (p_f : DTask → Bool) : List DTask := p_s.filter fun y => !p_f y
def g_slices_Clone_task (p_s : List DTask) : List DTask :=
  (([] : List DTask) ++ p_s)
def i_piece_c1 (p_k : DTask) (p_cap0 : DFill) : Bool :=
  sLe p_k.key p_cap0.Last
def B_i_piece_0 (p_tasks : List DTask) (ps : List DWrite) (p_f : DFill) (p_many : Int) : (List DWrite) × Int × Str → Out ((List DWrite) × DFill) ((List DWrite) × Int × Str)
  | (x61, x64, x65) => bif decide (x64 < (min p_many ((g_slices_DeleteFunc_task (g_slices_Clone_task p_tasks) (fun y0 => i_piece_c1 y0 p_f)).length : Int))) then
      bif (i_runOps x61 (((g_slices_DeleteFunc_task (g_slices_Clone_task p_tasks) (fun y0 => i_piece_c1 y0 p_f)).getD ((x64).toNat) d_Task).ops)).2 then
        .cont ((i_runOps x61 (((g_slices_DeleteFunc_task (g_slices_Clone_task p_tasks) (fun y0 => i_piece_c1 y0 p_f)).getD ((x64).toNat) d_Task).ops)).1, IntKind.wrap .i64 (x64 + 1), ((g_slices_DeleteFunc_task (g_slices_Clone_task p_tasks) (fun y0 => i_piece_c1 y0 p_f)).getD ((x64).toNat) d_Task).key)
      else
        .brk (x61, x64, x65)
    else
      .brk (x61, x64, x65)
def i_piece (p_tasks : List DTask) (ps : List DWrite) (p_f : DFill) (p_many : Int) : (List DWrite) × DFill :=
  loopE (loopW (B_i_piece_0 p_tasks ps p_f p_many) (((((g_slices_DeleteFunc_task (g_slices_Clone_task p_tasks) (fun y0 => i_piece_c1 y0 p_f)).length : Int) - 0).toNat) + 1) (ps, 0, p_f.Last)) (fun r => r) (fun (x61, x64, x65) =>
    bif p_f.Over then
      ((g_slices_Clone_Write x61), (⟨x65, true⟩ : DFill))
    else
      ((g_slices_Clone_Write x61), (⟨x65, decide (x64 = ((g_slices_DeleteFunc_task (g_slices_Clone_task p_tasks) (fun y0 => i_piece_c1 y0 p_f)).length : Int))⟩ : DFill)))
def g_strings_Join (p_elems : List Str) (p_sep : Str) : Str :=
  p_sep.intercalate p_elems
def i_Table_rowWrite (p_t : DTable) (p_r : DRow) : DWrite :=
  (⟨(p_t.Name ++ ([47] : Str)) ++ (p_r.Vals.getD 0 d_Str), (g_strings_Join (p_r.Vals.drop 1) ([44] : Str)), false⟩ : DWrite)
def B_g_slices_IndexFunc_string_0 (p_s : List Str) (p_f : Str → Bool) (k7 : Nat) : Unit → Out Int Unit
  | () => bif p_f (p_s.getD k7 d_Str) then
      .ret (k7 : Int)
    else
      .cont ()
def g_slices_IndexFunc_string (p_s : List Str) (p_f : Str → Bool) : Int :=
  loopE (loopM (B_g_slices_IndexFunc_string_0 p_s p_f) (p_s.length - 0) 0 ()) (fun r => r) (fun _ =>
    -1)
def g_slices_ContainsFunc_string (p_s : List Str) (p_f : Str → Bool) : Bool :=
  decide (0 ≤ (g_slices_IndexFunc_string p_s p_f))
def i_isField (p_s : Str) : Bool :=
  bif i_within (p_s.length : Int) 1 3 then
    (i_hasBytes p_s ([] : Str))
  else
    false
def i_Table_isRow_c1 (p_s : Str) : Bool :=
  !(i_isField p_s)
def i_Table_isRow (p_t : DTable) (p_r : DRow) : Bool :=
  bif decide ((p_r.Vals.length : Int) = (p_t.Cols.length : Int)) then
    !(g_slices_ContainsFunc_string p_r.Vals (fun y0 => i_Table_isRow_c1 y0))
  else
    false
def g_strings_Split (p_s : Str) (p_sep : Str) : List Str :=
  sp (p_sep.headD 0) p_s
def g_internal_stringslite_HasPrefix (p_s : Str) (p_prefix : Str) : Bool :=
  bif decide ((p_prefix.length : Int) ≤ (p_s.length : Int)) then
    (p_s.take p_prefix.length) == p_prefix
  else
    false
def g_internal_stringslite_CutPrefix (p_s : Str) (p_prefix : Str) : Str × Bool :=
  bif g_internal_stringslite_HasPrefix p_s p_prefix then
    ((p_s.drop p_prefix.length), true)
  else
    (p_s, false)
def g_strings_CutPrefix (p_s : Str) (p_prefix : Str) : Str × Bool :=
  ((g_internal_stringslite_CutPrefix p_s p_prefix).1, (g_internal_stringslite_CutPrefix p_s p_prefix).2)
def i_Table_readRow (p_t : DTable) (p_w : DWrite) : DRow × Bool :=
  bif (g_strings_CutPrefix p_w.Key (p_t.Name ++ ([47] : Str))).2 then
    bif i_Table_isRow p_t (⟨(([(g_strings_CutPrefix p_w.Key (p_t.Name ++ ([47] : Str))).1] : List Str) ++ (g_strings_Split p_w.Val ([44] : Str)))⟩ : DRow) then
      bif (p_w.Key == ((i_Table_rowWrite p_t (⟨(([(g_strings_CutPrefix p_w.Key (p_t.Name ++ ([47] : Str))).1] : List Str) ++ (g_strings_Split p_w.Val ([44] : Str)))⟩ : DRow)).Key)) && ((p_w.Val == ((i_Table_rowWrite p_t (⟨(([(g_strings_CutPrefix p_w.Key (p_t.Name ++ ([47] : Str))).1] : List Str) ++ (g_strings_Split p_w.Val ([44] : Str)))⟩ : DRow)).Val)) && (p_w.Gone == ((i_Table_rowWrite p_t (⟨(([(g_strings_CutPrefix p_w.Key (p_t.Name ++ ([47] : Str))).1] : List Str) ++ (g_strings_Split p_w.Val ([44] : Str)))⟩ : DRow)).Gone))) then
        ((⟨(([(g_strings_CutPrefix p_w.Key (p_t.Name ++ ([47] : Str))).1] : List Str) ++ (g_strings_Split p_w.Val ([44] : Str)))⟩ : DRow), true)
      else
        ((⟨[]⟩ : DRow), false)
    else
      ((⟨[]⟩ : DRow), false)
  else
    ((⟨[]⟩ : DRow), false)
def B_i_Table_rowsIn_0 (p_t : DTable) (ps : List DWrite) (k19 : Nat) : (List DRow) → Out (List DRow) (List DRow)
  | (x101) => bif (i_Table_readRow p_t (ps.getD k19 d_Write)).2 then
      .cont ((x101 ++ ([(i_Table_readRow p_t (ps.getD k19 d_Write)).1] : List DRow)))
    else
      .cont (x101)
def i_Table_rowsIn (p_t : DTable) (ps : List DWrite) : List DRow :=
  loopE (loopM (B_i_Table_rowsIn_0 p_t ps) (ps.length - 0) 0 (([] : List DRow))) (fun r => r) (fun x101 =>
    x101)
def i_Table_idxHead (p_t : DTable) (pn : Str) : Str :=
  ((p_t.Name ++ ([46] : Str)) ++ pn) ++ ([47] : Str)
def i_Table_idx (p_t : DTable) (pn : Str) : DIdx :=
  (p_t.Idxs.getD (((i_Table_findIdx p_t pn)).toNat) d_Idx)
def i_Table_idxKey (p_t : DTable) (pn : Str) (p_r : DRow) : Str :=
  (((i_Table_idxHead p_t pn) ++ (p_r.Vals.getD (((i_Table_idx p_t pn).Col).toNat) d_Str)) ++ ([47] : Str)) ++ (p_r.Vals.getD 0 d_Str)
def i_Table_fillOps (p_t : DTable) (pn : Str) (p_r : DRow) : List DOp :=
  ([(⟨7, (i_Table_rowWrite p_t p_r).Key, (i_Table_rowWrite p_t p_r).Val, 0⟩ : DOp), (⟨2, (i_Table_idxKey p_t pn p_r), ([] : Str), 0⟩ : DOp)] : List DOp)
def B_i_Table_fills_0 (p_t : DTable) (pn : Str) (ps : List DWrite) (k26 : Nat) : (List DTask) → Out (List DTask) (List DTask)
  | (x80) => .cont ((x80 ++ ([(⟨(i_Table_rowWrite p_t ((i_Table_rowsIn p_t ps).getD k26 d_Row)).Key, (i_Table_fillOps p_t pn ((i_Table_rowsIn p_t ps).getD k26 d_Row))⟩ : DTask)] : List DTask)))
def i_Table_fills (p_t : DTable) (pn : Str) (ps : List DWrite) : List DTask :=
  loopE (loopM (B_i_Table_fills_0 p_t pn ps) ((i_Table_rowsIn p_t ps).length - 0) 0 (([] : List DTask))) (fun r => r) (fun x80 =>
    x80)
def i_FillPiece (p_t : DTable) (pn : Str) (ps : List DWrite) (p_f : DFill) (p_many : Int) : (List DWrite) × DFill × Bool :=
  bif i_arePiece p_t pn ps p_f p_many then
    ((i_piece (i_Table_fills p_t pn ps) ps p_f p_many).1, (i_piece (i_Table_fills p_t pn ps) ps p_f p_many).2, true)
  else
    (([] : List DWrite), (⟨([] : Str), false⟩ : DFill), false)
def l_FnExactFillPiece (p_0 : DTable) (p_1 : Str) (p_2 : List DWrite) (p_3 : DFill) (p_4 : Int) : Bool :=
  bif decide (1048576 < (p_1.length : Int)) then
    true
  else
    bif decide ((l_szTable p_0 1048576) < 0) then
      true
    else
      bif decide ((l_szWriteS p_2 (l_szTable p_0 1048576)) < 0) then
        true
      else
        bif decide ((l_szFill p_3 (l_szWriteS p_2 (l_szTable p_0 1048576))) < 0) then
          true
        else
          bif l_eqWriteS ((i_FillPiece p_0 p_1 p_2 p_3 p_4).1) ((s_FillPiece p_0 p_1 p_2 p_3 p_4).1) then
            bif l_eqFill ((i_FillPiece p_0 p_1 p_2 p_3 p_4).2.1) ((s_FillPiece p_0 p_1 p_2 p_3 p_4).2.1) then
              bif ((i_FillPiece p_0 p_1 p_2 p_3 p_4).2.2) == ((s_FillPiece p_0 p_1 p_2 p_3 p_4).2.2) then
                bif l_eqTable p_0 p_0 then
                  bif l_eqWriteS p_2 p_2 then
                    bif decide (((l_markWriteS p_2 ((l_markTable p_0 1).1)).1) < 0) then
                      false
                    else
                      bif decide ((l_heldWriteS ((l_markWriteS ((i_FillPiece p_0 p_1 p_2 p_3 p_4).1) 1).2) 1) < 0) then
                        false
                      else
                        bif decide ((l_heldWriteS ((l_markWriteS ((i_FillPiece p_0 p_1 p_2 p_3 p_4).1) 1).2) 1) = ((l_markWriteS ((i_FillPiece p_0 p_1 p_2 p_3 p_4).1) 1).1)) then
                          true
                        else
                          false
                  else
                    false
                else
                  false
              else
                false
            else
              false
          else
            false
abbrev DRT := (Option Addr × Nat) × DTask
def e_RT (p : DRT) : List Value := [.string (bs p.2.key), .slice p.1.1 p.2.ops.length p.1.2]
def d_RT : DRT := ((none, 0), d_Task)
theorem good_RT : Gd (RF e_RT) := RF.good fun _ => rfl
/-- what an element names lies below K -/
def sideT (w : World) (K : Nat) (p : DRT) : Prop := RdS w (Iv 0 K) (RF e_Op) 4 p.1.1 p.2.ops.length p.1.2 p.2.ops
theorem rt_of {w : World} {K : Nat} : ∀ {cells : List Value} {xs : List DTask}, EncL (R_Task w (Iv 0 K)) 2 cells xs → ∃ ps : List DRT, ps.map (·.2) = xs ∧ EncL (RF e_RT w (Iv 0 K)) 2 cells ps ∧ ∀ p ∈ ps, sideT w K p
  | _, _, .nil => ⟨[], rfl, .nil, fun _ h => by cases h⟩
  | _, _, .cons (x := x) hl h hs => by
    obtain ⟨ps, h1, h2, h3⟩ := rt_of hs
    obtain ⟨A, c, rfl, hr⟩ := h
    refine ⟨((A, c), x) :: ps, by rw [List.map_cons, h1], .cons hl rfl h2, fun p hp => ?_⟩
    rcases List.mem_cons.1 hp with rfl | hp
    · exact hr
    · exact h3 p hp
theorem rt_to {w : World} {K : Nat} {S S' : Nat → Prop} (hS : ∀ b, Iv 0 K b → S b) : ∀ {cells : List Value} {ps : List DRT}, EncL (RF e_RT w S') 2 cells ps → (∀ p ∈ ps, sideT w K p) → EncL (R_Task w S) 2 cells (ps.map (·.2))
  | _, _, .nil, _ => .nil
  | _, _, .cons (x := x) hl h hs, hp => .cons hl ⟨x.1.1, x.1.2, h, RdS.wide good_Op (hp x (List.mem_cons_self ..)) fun b hb _ => hS b hb⟩ (rt_to hS hs fun p h => hp p (List.mem_cons_of_mem _ h))
theorem rd_rt {w : World} {K n c : Nat} {A : Option Addr} {xs : List DTask} (h : RdS w (Iv 0 K) R_Task 2 A n c xs) : ∃ ps : List DRT, ps.map (·.2) = xs ∧ RdS w (Iv 0 K) (RF e_RT) 2 A n c ps ∧ ∀ p ∈ ps, sideT w K p := by
  obtain ⟨h1, h2, h3, cells, he, hc⟩ := h
  obtain ⟨ps, rfl, h5, h6⟩ := rt_of he
  refine ⟨ps, rfl, ⟨by rw [h1, List.length_map], h2, h3, cells, h5, ?_⟩, h6⟩
  rcases hc with h | h
  · exact .inl (List.map_eq_nil_iff.1 h)
  · exact .inr h
theorem rd_un {w : World} {K lo hi n c : Nat} {A : Option Addr} {ps : List DRT} (h : OwnL w lo hi 135 2 (RF e_RT) A n c ps) (hs : ∀ p ∈ ps, sideT w K p) : RdS w (fun q => Iv 0 K q ∨ Iv lo hi q) R_Task 2 A n c (ps.map (·.2)) := by
  obtain ⟨h1, h2, h3, cells, he, hc⟩ := OwnL.rdI good_RT h
  refine ⟨by rw [h1, List.length_map], h2, h3, cells, rt_to (fun b hb => .inl hb) he hs, ?_⟩
  rcases hc with h | ⟨b, off, hA, hS, hb, hc⟩
  · exact .inl (by rw [h]; rfl)
  · exact .inr ⟨b, off, hA, .inr hS, hb, hc⟩
def OwnB (K : Nat) (w : World) (lo hi : Nat) (A : Option Addr) (n c : Nat) (xs : List DTask) : Prop := ∃ ps : List DRT, ps.map (·.2) = xs ∧ OwnL w lo hi 135 2 (RF e_RT) A n c ps ∧ (∀ p ∈ ps, sideT w K p) ∧ K ≤ lo
theorem sideT.ex {w w' : World} {K : Nat} {p : DRT} (h : sideT w K p) (e : Ex w w') : sideT w' K p := RdS.ex good_Op h e
theorem sideT.mut {w w' : World} {K lo hi : Nat} {p : DRT} (h : sideT w K p) (e : Mut [(lo, hi)] w w') (hk : K ≤ lo) : sideT w' K p := RdS.mut good_Op h e fun k hk => by simp only [InR, or_false, Iv] at hk ⊢; omega

def g_internal_stringslite_Index (p_0 : Str) (p_1 : Str) : Int :=
  bif p_1 == p_0 then
    0
  else
    (g_internal_stringslite_IndexByte p_0 ((p_1.getD 0 0).toNat : Int))
def g_internal_stringslite_Cut (p_s : Str) (p_sep : Str) : Str × Str × Bool :=
  bif decide (0 ≤ (g_internal_stringslite_Index p_s p_sep)) then
    ((p_s.take (((g_internal_stringslite_Index p_s p_sep)).toNat)), (p_s.drop ((IntKind.wrap .i64 ((g_internal_stringslite_Index p_s p_sep) + (p_sep.length : Int))).toNat)), true)
  else
    (p_s, ([] : Str), false)
def g_strings_Cut (p_s : Str) (p_sep : Str) : Str × Str × Bool :=
  ((g_internal_stringslite_Cut p_s p_sep).1, (g_internal_stringslite_Cut p_s p_sep).2.1, (g_internal_stringslite_Cut p_s p_sep).2.2)
def i_Table_readIdxKey (p_t : DTable) (pn : Str) (p_key : Str) : Str × Str × Bool :=
  bif (g_strings_CutPrefix p_key (i_Table_idxHead p_t pn)).2 then
    bif (g_strings_Cut ((g_strings_CutPrefix p_key (i_Table_idxHead p_t pn)).1) ([47] : Str)).2.2 then
      bif i_isField ((g_strings_Cut ((g_strings_CutPrefix p_key (i_Table_idxHead p_t pn)).1) ([47] : Str)).1) then
        bif i_isField ((g_strings_Cut ((g_strings_CutPrefix p_key (i_Table_idxHead p_t pn)).1) ([47] : Str)).2.1) then
          ((g_strings_Cut ((g_strings_CutPrefix p_key (i_Table_idxHead p_t pn)).1) ([47] : Str)).1, (g_strings_Cut ((g_strings_CutPrefix p_key (i_Table_idxHead p_t pn)).1) ([47] : Str)).2.1, true)
        else
          (([] : Str), ([] : Str), false)
      else
        (([] : Str), ([] : Str), false)
    else
      (([] : Str), ([] : Str), false)
  else
    (([] : Str), ([] : Str), false)
def s_GoodRow (p_t : DTable) (p_r : DRow) : Bool :=
  bif s_GoodTable p_t then
    (s_l25Good p_t p_r)
  else
    false
def i_GoodRow (p_t : DTable) (p_r : DRow) : Bool :=
  bif i_GoodTable p_t then
    (i_Table_isRow p_t p_r)
  else
    false
def s_IdxAt (p_t : DTable) (pn : Str) : DIdx × Bool :=
  bif s_GoodTable p_t then
    bif decide ((s_l24Idx p_t pn) < 0) then
      ((⟨([] : Str), 0, 0⟩ : DIdx), false)
    else
      ((p_t.Idxs.getD (((s_l24Idx p_t pn)).toNat) d_Idx), true)
  else
    ((⟨([] : Str), 0, 0⟩ : DIdx), false)
def B_l_heldStringS_0 (p_a : List Str) (p_k : Int) (k2 : Nat) : Int → Out Int Int
  | (x3) => bif (p_a.getD k2 d_Str) == (l_markText x3) then
      .cont (IntKind.wrap .i64 (x3 + 1))
    else
      .ret (-1)
def l_heldStringS (p_a : List Str) (p_k : Int) : Int :=
  loopE (loopM (B_l_heldStringS_0 p_a p_k) (p_a.length - 0) 0 (p_k)) (fun r => r) (fun x3 =>
    x3)
def B_l_heldIdxS_0 (p_a : List DIdx) (p_k : Int) (k2 : Nat) : Int → Out Int Int
  | (x3) => bif ((p_a.getD k2 d_Idx).Name) == (l_markText x3) then
      bif decide (((p_a.getD k2 d_Idx).Col) = (IntKind.wrap .i64 (x3 + 1))) then
        bif decide (((p_a.getD k2 d_Idx).Stage) = (IntKind.wrap .i64 ((IntKind.wrap .i64 (x3 + 1)) + 1))) then
          .cont (IntKind.wrap .i64 ((IntKind.wrap .i64 ((IntKind.wrap .i64 (x3 + 1)) + 1)) + 1))
        else
          .ret (-1)
      else
        .ret (-1)
    else
      .ret (-1)
def l_heldIdxS (p_a : List DIdx) (p_k : Int) : Int :=
  loopE (loopM (B_l_heldIdxS_0 p_a p_k) (p_a.length - 0) 0 (p_k)) (fun r => r) (fun x3 =>
    x3)
def l_heldTable (p_a : DTable) (p_k : Int) : Int :=
  bif decide ((l_heldStringS p_a.Cols p_k) < 0) then
    -1
  else
    bif decide ((l_heldIdxS p_a.Idxs (l_heldStringS p_a.Cols p_k)) < 0) then
      -1
    else
      (l_heldIdxS p_a.Idxs (l_heldStringS p_a.Cols p_k))
def cS (x y : Str) : Int := bif sLt x y then -1 else bif sLe x y then 0 else 1
def i_RowWrite (p_t : DTable) (p_r : DRow) : DWrite × Bool :=
  bif i_GoodRow p_t p_r then
    ((i_Table_rowWrite p_t p_r), true)
  else
    ((⟨([] : Str), ([] : Str), false⟩ : DWrite), false)
def i_ReadIdxKey (p_t : DTable) (pn : Str) (p_key : Str) : Str × Str × Bool :=
  bif i_hasIdx p_t pn then
    ((i_Table_readIdxKey p_t pn p_key).1, (i_Table_readIdxKey p_t pn p_key).2.1, (i_Table_readIdxKey p_t pn p_key).2.2)
  else
    (([] : Str), ([] : Str), false)
def i_ReadRow (p_t : DTable) (p_w : DWrite) : DRow × Bool :=
  bif i_GoodTable p_t then
    ((i_Table_readRow p_t p_w).1, (i_Table_readRow p_t p_w).2)
  else
    ((⟨[]⟩ : DRow), false)
end Go.Proofs.YtoimdjojffkefaaGreatDoor
