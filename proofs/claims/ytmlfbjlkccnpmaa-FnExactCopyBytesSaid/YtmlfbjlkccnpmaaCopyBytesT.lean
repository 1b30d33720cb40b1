/- Copy Bytes: the plain forms of the values, and plain models of the functions. -/
import Derived.Test.YtmlfbjlkccnpmaaE13
set_option linter.unusedVariables false
set_option linter.unusedSimpArgs false
namespace Go.Proofs.Ytmlfbjlkccnpmaa
open Go.RowKit Go.X
structure DWrite where
  Key : Str
  Val : Str
  Gone : Bool
def d_Write : DWrite := ⟨[], [], false⟩
def wf_Write (x : DWrite) : Prop := wfS x.Key ∧ wfS x.Val
def ok_Write (x : DWrite) : Prop := okS x.Key ∧ okS x.Val
theorem ok_d_Write : ok_Write d_Write := ⟨ok_d_Str, ok_d_Str⟩
def e_Write (x : DWrite) : List Value := [.string (bs x.Key), .string (bs x.Val), .bool x.Gone]
theorem good_Write : Gd (RF e_Write) := RF.good fun _ => rfl
structure DCopy where
  Time : Int
  Rows : List DWrite
def d_Copy : DCopy := ⟨0, []⟩
def wf_Copy (x : DCopy) : Prop := wfI x.Time ∧ (wfL wf_Write) x.Rows
def ok_Copy (x : DCopy) : Prop := (okL ok_Write) x.Rows
theorem ok_d_Copy : ok_Copy d_Copy := okL.nil _
def R_Copy : Rel DCopy := fun w S cs x => ∃ A1 c1, cs = [.int .i64 x.Time, .slice A1 x.Rows.length c1] ∧ RdS w S (RF e_Write) 3 A1 x.Rows.length c1 x.Rows
theorem good_Copy : Gd R_Copy := ⟨fun ⟨A1, c1, he, h0⟩ hk => ⟨A1, c1, he, RdS.keep good_Write h0 hk⟩, fun ⟨A1, c1, he, h0⟩ hw => ⟨A1, c1, he, RdS.wide good_Write h0 hw⟩, fun ⟨A1, c1, he, h0⟩ => by rw [he]; rfl⟩
structure DIdx where
  Name : Str
  Col : Int
  Stage : Int
def d_Idx : DIdx := ⟨[], 0, 0⟩
def wf_Idx (x : DIdx) : Prop := wfS x.Name ∧ wfI x.Col ∧ wfI x.Stage
def ok_Idx (x : DIdx) : Prop := okS x.Name
theorem ok_d_Idx : ok_Idx d_Idx := ok_d_Str
def e_Idx (x : DIdx) : List Value := [.string (bs x.Name), .int .i64 x.Col, .int .i64 x.Stage]
theorem good_Idx : Gd (RF e_Idx) := RF.good fun _ => rfl
structure DFeedItem where
  Time : Int
  Group : Int
  Key : Str
  Val : Str
  Gone : Bool
def d_FeedItem : DFeedItem := ⟨0, 0, [], [], false⟩
def wf_FeedItem (x : DFeedItem) : Prop := wfI x.Time ∧ wfI x.Group ∧ wfS x.Key ∧ wfS x.Val
def ok_FeedItem (x : DFeedItem) : Prop := okS x.Key ∧ okS x.Val
theorem ok_d_FeedItem : ok_FeedItem d_FeedItem := ⟨ok_d_Str, ok_d_Str⟩
def e_FeedItem (x : DFeedItem) : List Value := [.int .i64 x.Time, .int .i64 x.Group, .string (bs x.Key), .string (bs x.Val), .bool x.Gone]
theorem good_FeedItem : Gd (RF e_FeedItem) := RF.good fun _ => rfl
structure DVer where
  Time : Int
  Val : Str
  Gone : Bool
def d_Ver : DVer := ⟨0, [], false⟩
def wf_Ver (x : DVer) : Prop := wfI x.Time ∧ wfS x.Val
def ok_Ver (x : DVer) : Prop := okS x.Val
theorem ok_d_Ver : ok_Ver d_Ver := ok_d_Str
def e_Ver (x : DVer) : List Value := [.int .i64 x.Time, .string (bs x.Val), .bool x.Gone]
theorem good_Ver : Gd (RF e_Ver) := RF.good fun _ => rfl
structure DCell where
  Key : Str
  Vers : List DVer
def d_Cell : DCell := ⟨[], []⟩
def wf_Cell (x : DCell) : Prop := wfS x.Key ∧ (wfL wf_Ver) x.Vers
def ok_Cell (x : DCell) : Prop := okS x.Key ∧ (okL ok_Ver) x.Vers
theorem ok_d_Cell : ok_Cell d_Cell := ⟨ok_d_Str, okL.nil _⟩
def R_Cell : Rel DCell := fun w S cs x => ∃ A1 c1, cs = [.string (bs x.Key), .slice A1 x.Vers.length c1] ∧ RdS w S (RF e_Ver) 3 A1 x.Vers.length c1 x.Vers
theorem good_Cell : Gd R_Cell := ⟨fun ⟨A1, c1, he, h0⟩ hk => ⟨A1, c1, he, RdS.keep good_Ver h0 hk⟩, fun ⟨A1, c1, he, h0⟩ hw => ⟨A1, c1, he, RdS.wide good_Ver h0 hw⟩, fun ⟨A1, c1, he, h0⟩ => by rw [he]; rfl⟩
structure DTable where
  Name : Str
  Cols : List Str
  Idxs : List DIdx
def d_Table : DTable := ⟨[], [], []⟩
def wf_Table (x : DTable) : Prop := wfS x.Name ∧ (wfL wfS) x.Cols ∧ (wfL wf_Idx) x.Idxs
def ok_Table (x : DTable) : Prop := okS x.Name ∧ (okL okS) x.Cols ∧ (okL ok_Idx) x.Idxs
theorem ok_d_Table : ok_Table d_Table := ⟨ok_d_Str, okL.nil _, okL.nil _⟩
def R_Table : Rel DTable := fun w S cs x => ∃ A1 c1 A2 c2, cs = [.string (bs x.Name), .slice A1 x.Cols.length c1, .slice A2 x.Idxs.length c2] ∧ RdS w S (RF e_Str) 1 A1 x.Cols.length c1 x.Cols ∧ RdS w S (RF e_Idx) 3 A2 x.Idxs.length c2 x.Idxs
theorem good_Table : Gd R_Table := ⟨fun ⟨A1, c1, A2, c2, he, h0, h1⟩ hk => ⟨A1, c1, A2, c2, he, RdS.keep good_Str h0 hk, RdS.keep good_Idx h1 hk⟩, fun ⟨A1, c1, A2, c2, he, h0, h1⟩ hw => ⟨A1, c1, A2, c2, he, RdS.wide good_Str h0 hw, RdS.wide good_Idx h1 hw⟩, fun ⟨A1, c1, A2, c2, he, h0, h1⟩ => by rw [he]; rfl⟩
structure DBoundsError where
  x : Int
  y : Int
  signed : Bool
  code : Int
def d_BoundsError : DBoundsError := ⟨0, 0, false, 0⟩
def wf_BoundsError (x : DBoundsError) : Prop := wfI x.x ∧ wfI x.y ∧ wfI x.code
def e_BoundsError (x : DBoundsError) : List Value := [.int .i64 x.x, .int .i64 x.y, .bool x.signed, .int .u8 x.code]
theorem good_BoundsError : Gd (RF e_BoundsError) := RF.good fun _ => rfl
structure DErrorAddressString where
  msg : Str
  addr : Int
def d_ErrorAddressString : DErrorAddressString := ⟨[], 0⟩
def wf_ErrorAddressString (x : DErrorAddressString) : Prop := wfS x.msg ∧ wfI x.addr
def ok_ErrorAddressString (x : DErrorAddressString) : Prop := okS x.msg
theorem ok_d_ErrorAddressString : ok_ErrorAddressString d_ErrorAddressString := ok_d_Str
def e_ErrorAddressString (x : DErrorAddressString) : List Value := [.string (bs x.msg), .int .u64 x.addr]
theorem good_ErrorAddressString : Gd (RF e_ErrorAddressString) := RF.good fun _ => rfl
structure DRow where
  Vals : List Str
def d_Row : DRow := ⟨[]⟩
def wf_Row (x : DRow) : Prop := (wfL wfS) x.Vals
def ok_Row (x : DRow) : Prop := (okL okS) x.Vals
theorem ok_d_Row : ok_Row d_Row := okL.nil _
def R_Row : Rel DRow := fun w S cs x => ∃ A1 c1, cs = [.slice A1 x.Vals.length c1] ∧ RdS w S (RF e_Str) 1 A1 x.Vals.length c1 x.Vals
theorem good_Row : Gd R_Row := ⟨fun ⟨A1, c1, he, h0⟩ hk => ⟨A1, c1, he, RdS.keep good_Str h0 hk⟩, fun ⟨A1, c1, he, h0⟩ hw => ⟨A1, c1, he, RdS.wide good_Str h0 hw⟩, fun ⟨A1, c1, he, h0⟩ => by rw [he]; rfl⟩
structure DRowAct where
  Kind : Int
  Old : DRow
  New : DRow
def d_RowAct : DRowAct := ⟨0, d_Row, d_Row⟩
def wf_RowAct (x : DRowAct) : Prop := wfI x.Kind ∧ wf_Row x.Old ∧ wf_Row x.New
def ok_RowAct (x : DRowAct) : Prop := ok_Row x.Old ∧ ok_Row x.New
theorem ok_d_RowAct : ok_RowAct d_RowAct := ⟨ok_d_Row, ok_d_Row⟩
def R_RowAct : Rel DRowAct := fun w S cs x => ∃ A1 c1 A2 c2, cs = [.int .i64 x.Kind, .slice A1 x.Old.Vals.length c1, .slice A2 x.New.Vals.length c2] ∧ RdS w S (RF e_Str) 1 A1 x.Old.Vals.length c1 x.Old.Vals ∧ RdS w S (RF e_Str) 1 A2 x.New.Vals.length c2 x.New.Vals
theorem good_RowAct : Gd R_RowAct := ⟨fun ⟨A1, c1, A2, c2, he, h0, h1⟩ hk => ⟨A1, c1, A2, c2, he, RdS.keep good_Str h0 hk, RdS.keep good_Str h1 hk⟩, fun ⟨A1, c1, A2, c2, he, h0, h1⟩ hw => ⟨A1, c1, A2, c2, he, RdS.wide good_Str h0 hw, RdS.wide good_Str h1 hw⟩, fun ⟨A1, c1, A2, c2, he, h0, h1⟩ => by rw [he]; rfl⟩
structure DStmt where
  Kind : Int
  Act : DRowAct
  Idx : Str
  Low : Str
  High : Str
def d_Stmt : DStmt := ⟨0, d_RowAct, [], [], []⟩
def wf_Stmt (x : DStmt) : Prop := wfI x.Kind ∧ wf_RowAct x.Act ∧ wfS x.Idx ∧ wfS x.Low ∧ wfS x.High
def ok_Stmt (x : DStmt) : Prop := ok_RowAct x.Act ∧ okS x.Idx ∧ okS x.Low ∧ okS x.High
theorem ok_d_Stmt : ok_Stmt d_Stmt := ⟨ok_d_RowAct, ok_d_Str, ok_d_Str, ok_d_Str⟩
def R_Stmt : Rel DStmt := fun w S cs x => ∃ A1 c1 A2 c2, cs = [.int .i64 x.Kind, .int .i64 x.Act.Kind, .slice A1 x.Act.Old.Vals.length c1, .slice A2 x.Act.New.Vals.length c2, .string (bs x.Idx), .string (bs x.Low), .string (bs x.High)] ∧ RdS w S (RF e_Str) 1 A1 x.Act.Old.Vals.length c1 x.Act.Old.Vals ∧ RdS w S (RF e_Str) 1 A2 x.Act.New.Vals.length c2 x.Act.New.Vals
theorem good_Stmt : Gd R_Stmt := ⟨fun ⟨A1, c1, A2, c2, he, h0, h1⟩ hk => ⟨A1, c1, A2, c2, he, RdS.keep good_Str h0 hk, RdS.keep good_Str h1 hk⟩, fun ⟨A1, c1, A2, c2, he, h0, h1⟩ hw => ⟨A1, c1, A2, c2, he, RdS.wide good_Str h0 hw, RdS.wide good_Str h1 hw⟩, fun ⟨A1, c1, A2, c2, he, h0, h1⟩ => by rw [he]; rfl⟩
structure DDiff where
  From : Int
  To : Int
  List : List DFeedItem
def d_Diff : DDiff := ⟨0, 0, []⟩
def wf_Diff (x : DDiff) : Prop := wfI x.From ∧ wfI x.To ∧ (wfL wf_FeedItem) x.List
def ok_Diff (x : DDiff) : Prop := (okL ok_FeedItem) x.List
theorem ok_d_Diff : ok_Diff d_Diff := okL.nil _
def R_Diff : Rel DDiff := fun w S cs x => ∃ A1 c1, cs = [.int .i64 x.From, .int .i64 x.To, .slice A1 x.List.length c1] ∧ RdS w S (RF e_FeedItem) 5 A1 x.List.length c1 x.List
theorem good_Diff : Gd R_Diff := ⟨fun ⟨A1, c1, he, h0⟩ hk => ⟨A1, c1, he, RdS.keep good_FeedItem h0 hk⟩, fun ⟨A1, c1, he, h0⟩ hw => ⟨A1, c1, he, RdS.wide good_FeedItem h0 hw⟩, fun ⟨A1, c1, he, h0⟩ => by rw [he]; rfl⟩
structure DShift where
  Name : Str
  Ways : List DTable
  At : List Int
  Store : List DWrite
def d_Shift : DShift := ⟨[], [], [], []⟩
def wf_Shift (x : DShift) : Prop := wfS x.Name ∧ (wfL wf_Table) x.Ways ∧ (wfL wfI) x.At ∧ (wfL wf_Write) x.Store
def ok_Shift (x : DShift) : Prop := okS x.Name ∧ (okL ok_Table) x.Ways ∧ (okL okT) x.At ∧ (okL ok_Write) x.Store
theorem ok_d_Shift : ok_Shift d_Shift := ⟨ok_d_Str, okL.nil _, okL.nil _, okL.nil _⟩
def R_Shift : Rel DShift := fun w S cs x => ∃ A1 c1 A2 c2 A3 c3, cs = [.string (bs x.Name), .slice A1 x.Ways.length c1, .slice A2 x.At.length c2, .slice A3 x.Store.length c3] ∧ RdS w S R_Table 3 A1 x.Ways.length c1 x.Ways ∧ RdS w S (RF e_Int) 1 A2 x.At.length c2 x.At ∧ RdS w S (RF e_Write) 3 A3 x.Store.length c3 x.Store
theorem good_Shift : Gd R_Shift := ⟨fun ⟨A1, c1, A2, c2, A3, c3, he, h0, h1, h2⟩ hk => ⟨A1, c1, A2, c2, A3, c3, he, RdS.keep good_Table h0 hk, RdS.keep good_Int h1 hk, RdS.keep good_Write h2 hk⟩, fun ⟨A1, c1, A2, c2, A3, c3, he, h0, h1, h2⟩ hw => ⟨A1, c1, A2, c2, A3, c3, he, RdS.wide good_Table h0 hw, RdS.wide good_Int h1 hw, RdS.wide good_Write h2 hw⟩, fun ⟨A1, c1, A2, c2, A3, c3, he, h0, h1, h2⟩ => by rw [he]; rfl⟩
def l_szWrite (p_a : DWrite) (p_left : Int) : Int :=
  bif decide ((IntKind.wrap .i64 (p_left - (p_a.Key.length : Int))) < 0) then
    -1
  else
    bif decide ((IntKind.wrap .i64 ((IntKind.wrap .i64 (p_left - (p_a.Key.length : Int))) - (p_a.Val.length : Int))) < 0) then
      -1
    else
      IntKind.wrap .i64 ((IntKind.wrap .i64 (p_left - (p_a.Key.length : Int))) - (p_a.Val.length : Int))
def B_l_szWriteS_0 (p_a : List DWrite) (p_left : Int) (k3 : Nat) : Int → Out Int Int
  | (x4) => bif decide ((l_szWrite (p_a.getD k3 d_Write) x4) < 0) then
      .ret (-1)
    else
      .cont ((l_szWrite (p_a.getD k3 d_Write) x4))
def l_szWriteS (p_a : List DWrite) (p_left : Int) : Int :=
  bif decide ((IntKind.wrap .i64 (p_left - (p_a.length : Int))) < 0) then
    -1
  else
    loopE (loopM (B_l_szWriteS_0 p_a p_left) (p_a.length - 0) 0 (IntKind.wrap .i64 (p_left - (p_a.length : Int)))) (fun r => r) (fun x4 =>
      x4)
def l_szCopy (p_a : DCopy) (p_left : Int) : Int :=
  bif decide ((l_szWriteS p_a.Rows p_left) < 0) then
    -1
  else
    (l_szWriteS p_a.Rows p_left)
def l_toWrite (p_a : DWrite) : DWrite :=
  p_a
def B_l_toWriteS_0 (p_a : List DWrite) (k10 : Nat) : (List DWrite) → Out (List DWrite) (List DWrite)
  | (x21) => .cont ((x21.set k10 (p_a.getD k10 d_Write)))
def l_toWriteS (p_a : List DWrite) : List DWrite :=
  loopE (loopM (B_l_toWriteS_0 p_a) (p_a.length - 0) 0 ((List.replicate p_a.length d_Write))) (fun r => r) (fun x21 =>
    x21)
def l_toCopy (p_a : DCopy) : DCopy :=
  p_a
def l_eqWrite (p_a : DWrite) (p_b : DWrite) : Bool :=
  bif p_a.Key == p_b.Key then
    bif p_a.Val == p_b.Val then
      bif p_a.Gone == p_b.Gone then
        true
      else
        false
    else
      false
  else
    false
def B_l_eqWriteS_0 (p_a : List DWrite) (p_b : List DWrite) (k4 : Nat) : Unit → Out Bool Unit
  | () => bif l_eqWrite (p_a.getD k4 d_Write) (p_b.getD k4 d_Write) then
      .cont ()
    else
      .ret false
def l_eqWriteS (p_a : List DWrite) (p_b : List DWrite) : Bool :=
  bif decide ((p_a.length : Int) = (p_b.length : Int)) then
    loopE (loopM (B_l_eqWriteS_0 p_a p_b) (p_a.length - 0) 0 ()) (fun r => r) (fun _ =>
      true)
  else
    false
def l_eqCopy (p_a : DCopy) (p_b : DCopy) : Bool :=
  bif decide (p_a.Time = p_b.Time) then
    bif l_eqWriteS p_a.Rows p_b.Rows then
      true
    else
      false
  else
    false
def s_l1In (p_n : Int) (p_lo : Int) (p_hi : Int) : Bool :=
  bif decide (p_lo ≤ p_n) then
    decide (p_n ≤ p_hi)
  else
    false
def B_s_l3Bytes_1 (p_s : Str) (p_more : Str) (k3 : Nat) (k6 : Nat) : Bool → Out Bool Bool
  | (x7) => bif x7 then
      .cont (true)
    else
      .cont (decide (((p_s.getD k3 0).toNat : Int) = ((p_more.getD k6 0).toNat : Int)))
def B_s_l3Bytes_0 (p_s : Str) (p_more : Str) (k3 : Nat) : Unit → Out Bool Unit
  | () => bif decide (97 ≤ ((p_s.getD k3 0).toNat : Int)) then
      bif decide (((p_s.getD k3 0).toNat : Int) ≤ 122) then
        loopE (loopM (B_s_l3Bytes_1 p_s p_more k3) (p_more.length - 0) 0 (true)) (fun r => Out.ret r) (fun x7 =>
          bif x7 then
            .cont ()
          else
            .ret false)
      else
        bif decide (48 ≤ ((p_s.getD k3 0).toNat : Int)) then
          loopE (loopM (B_s_l3Bytes_1 p_s p_more k3) (p_more.length - 0) 0 (decide (((p_s.getD k3 0).toNat : Int) ≤ 57))) (fun r => Out.ret r) (fun x12 =>
            bif x12 then
              .cont ()
            else
              .ret false)
        else
          loopE (loopM (B_s_l3Bytes_1 p_s p_more k3) (p_more.length - 0) 0 (false)) (fun r => Out.ret r) (fun x15 =>
            bif x15 then
              .cont ()
            else
              .ret false)
    else
      bif decide (48 ≤ ((p_s.getD k3 0).toNat : Int)) then
        loopE (loopM (B_s_l3Bytes_1 p_s p_more k3) (p_more.length - 0) 0 (decide (((p_s.getD k3 0).toNat : Int) ≤ 57))) (fun r => Out.ret r) (fun x19 =>
          bif x19 then
            .cont ()
          else
            .ret false)
      else
        loopE (loopM (B_s_l3Bytes_1 p_s p_more k3) (p_more.length - 0) 0 (false)) (fun r => Out.ret r) (fun x22 =>
          bif x22 then
            .cont ()
          else
            .ret false)
def s_l3Bytes (p_s : Str) (p_more : Str) : Bool :=
  loopE (loopM (B_s_l3Bytes_0 p_s p_more) (p_s.length - 0) 0 ()) (fun r => r) (fun _ =>
    true)
def s_l3Key (p_s : Str) : Bool :=
  bif s_l1In (p_s.length : Int) 1 12 then
    (s_l3Bytes p_s ([46, 47] : Str))
  else
    false
def s_l3Val (p_s : Str) : Bool :=
  bif decide ((p_s.length : Int) ≤ 24) then
    (s_l3Bytes p_s ([46, 45, 44, 95] : Str))
  else
    false
def s_l3Write (p_key : Str) (p_val : Str) (p_gone : Bool) : Bool :=
  bif s_l3Key p_key then
    bif s_l3Val p_val then
      bif p_gone then
        p_val == ([] : Str)
      else
        true
    else
      false
  else
    false
def B_s_l3Writes_0 (p_l : List DWrite) (k3 : Nat) : Unit → Out Bool Unit
  | () => bif s_l3Write ((p_l.getD k3 d_Write).Key) ((p_l.getD k3 d_Write).Val) ((p_l.getD k3 d_Write).Gone) then
      bif decide (0 < (k3 : Int)) then
        bif sLt ((p_l.getD ((IntKind.wrap .i64 ((k3 : Int) - 1)).toNat) d_Write).Key) ((p_l.getD k3 d_Write).Key) then
          .cont ()
        else
          .ret false
      else
        .cont ()
    else
      .ret false
def s_l3Writes (p_l : List DWrite) : Bool :=
  loopE (loopM (B_s_l3Writes_0 p_l) (p_l.length - 0) 0 ()) (fun r => r) (fun _ =>
    decide ((p_l.length : Int) ≤ 24))
def B_s_l31Copy_0 (p_c : DCopy) (k9 : Nat) : Unit → Out Bool Unit
  | () => bif (p_c.Rows.getD k9 d_Write).Gone then
      .ret false
    else
      .cont ()
def s_l31Copy (p_c : DCopy) : Bool :=
  loopE (loopM (B_s_l31Copy_0 p_c) (p_c.Rows.length - 0) 0 ()) (fun r => r) (fun _ =>
    bif s_l1In p_c.Time 0 100000 then
      bif s_l3Writes p_c.Rows then
        bif decide (0 < p_c.Time) then
          true
        else
          decide ((p_c.Rows.length : Int) = 0)
      else
        false
    else
      false)
def B_s_l1NumB_0 (p_n : Int) : Int × (List Int) → Out Str (Int × (List Int))
  | (x20, x21) => bif decide (128 ≤ x20) then
      .cont (IntKind.wrap .i64 (Int.tdiv x20 128), (x21 ++ ([IntKind.wrap .u8 (IntKind.wrap .i64 ((Int.tmod x20 128) + 128))] : List Int)))
    else
      .brk (x20, x21)
def s_l1NumB (p_n : Int) : Str :=
  loopE (loopW (B_s_l1NumB_0 p_n) (((p_n).toNat) + 1) (p_n, ([] : List Int))) (fun r => r) (fun (x20, x21) =>
    toS (x21 ++ ([IntKind.wrap .u8 x20] : List Int)))
def s_l1TextB (p_s : Str) : Str :=
  (s_l1NumB (p_s.length : Int)) ++ p_s
def s_l1Three (p_n : Int) : Str :=
  toS ([IntKind.wrap .u8 (IntKind.wrap .i64 (Int.tdiv p_n 65536)), IntKind.wrap .u8 (Int.tmod (IntKind.wrap .i64 (Int.tdiv p_n 256)) 256), IntKind.wrap .u8 (Int.tmod p_n 256)] : List Int)
def B_s_l1Sum_0 (p_b : Str) (k2 : Nat) : Int → Out Int Int
  | (x3) => .cont (Int.tmod (IntKind.wrap .i64 ((IntKind.wrap .i64 ((IntKind.wrap .i64 (31 * x3)) + (IntKind.wrap .i64 ((p_b.getD k2 0).toNat : Int)))) + 1)) 16000057)
def s_l1Sum (p_b : Str) : Int :=
  loopE (loopM (B_s_l1Sum_0 p_b) (p_b.length - 0) 0 (7)) (fun r => r) (fun x3 =>
    x3)
def s_l1Seal (p_b : Str) : Str :=
  p_b ++ (s_l1Three (s_l1Sum p_b))
def B_s_CopyBytes_0 (p_c : DCopy) (k15 : Nat) : Str → Out (Str × Bool) Str
  | (x22) => .cont ((x22 ++ (s_l1TextB ((p_c.Rows.getD k15 d_Write).Key))) ++ (s_l1TextB ((p_c.Rows.getD k15 d_Write).Val)))
def s_CopyBytes (p_c : DCopy) : Str × Bool :=
  bif s_l31Copy p_c then
    loopE (loopM (B_s_CopyBytes_0 p_c) (p_c.Rows.length - 0) 0 ((s_l1NumB p_c.Time) ++ (s_l1NumB (p_c.Rows.length : Int)))) (fun r => r) (fun x22 =>
      ((s_l1Seal x22), true))
  else
    (([] : Str), false)
def i_within (p_n : Int) (p_low : Int) (p_high : Int) : Bool :=
  bif decide (p_low ≤ p_n) then
    decide (p_n ≤ p_high)
  else
    false
def i_isTrue (p_now : Int) : Bool :=
  (i_within p_now 0 100000)
def B_g_slices_IndexFunc_Write_0 (p_s : List DWrite) (p_f : DWrite → Bool) (k7 : Nat) : Unit → Out Int Unit
  | () => bif p_f (p_s.getD k7 d_Write) then
      .ret (k7 : Int)
    else
      .cont ()
def g_slices_IndexFunc_Write (p_s : List DWrite) (p_f : DWrite → Bool) : Int :=
  loopE (loopM (B_g_slices_IndexFunc_Write_0 p_s p_f) (p_s.length - 0) 0 ()) (fun r => r) (fun _ =>
    -1)
def g_slices_ContainsFunc_Write (p_s : List DWrite) (p_f : DWrite → Bool) : Bool :=
  decide (0 ≤ (g_slices_IndexFunc_Write p_s p_f))
def i_isLowerOrDigit (p_b : Int) : Bool :=
  bif decide (97 ≤ p_b) then
    bif decide (p_b ≤ 122) then
      true
    else
      bif decide (48 ≤ p_b) then
        decide (p_b ≤ 57)
      else
        false
  else
    bif decide (48 ≤ p_b) then
      decide (p_b ≤ 57)
    else
      false
def g_internal_stringslite_IndexByte (p_s : Str) (p_c : Int) : Int :=
  idxB p_s p_c
def g_strings_IndexByte (p_s : Str) (p_c : Int) : Int :=
  (g_internal_stringslite_IndexByte p_s p_c)
def B_i_hasBytes_0 (p_s : Str) (p_others : Str) (k3 : Nat) : Unit → Out Bool Unit
  | () => bif i_isLowerOrDigit ((p_s.getD k3 0).toNat : Int) then
      .cont ()
    else
      bif decide ((g_strings_IndexByte p_others ((p_s.getD k3 0).toNat : Int)) < 0) then
        .ret false
      else
        .cont ()
def i_hasBytes (p_s : Str) (p_others : Str) : Bool :=
  loopE (loopM (B_i_hasBytes_0 p_s p_others) (p_s.length - 0) 0 ()) (fun r => r) (fun _ =>
    true)
def i_GoodKey (p_s : Str) : Bool :=
  bif i_within (p_s.length : Int) 1 12 then
    (i_hasBytes p_s ([46, 47] : Str))
  else
    false
def B_i_areRising_0 (p_keys : List Str) (k3 : Nat) : Unit → Out Bool Unit
  | () => bif i_GoodKey (p_keys.getD k3 d_Str) then
      bif decide (0 < (k3 : Int)) then
        bif sLe (p_keys.getD k3 d_Str) (p_keys.getD ((IntKind.wrap .i64 ((k3 : Int) - 1)).toNat) d_Str) then
          .ret false
        else
          .cont ()
      else
        .cont ()
    else
      .ret false
def i_areRising (p_keys : List Str) : Bool :=
  loopE (loopM (B_i_areRising_0 p_keys) (p_keys.length - 0) 0 ()) (fun r => r) (fun _ =>
    true)
def B_i_writeKeys_0 (p_l : List DWrite) (k10 : Nat) : (List Str) → Out (List Str) (List Str)
  | (x60) => .cont ((x60 ++ ([(p_l.getD k10 d_Write).Key] : List Str)))
def i_writeKeys (p_l : List DWrite) : List Str :=
  loopE (loopM (B_i_writeKeys_0 p_l) (p_l.length - 0) 0 (([] : List Str))) (fun r => r) (fun x60 =>
    x60)
def i_GoodVal (p_s : Str) : Bool :=
  bif decide ((p_s.length : Int) ≤ 24) then
    (i_hasBytes p_s ([46, 45, 44, 95] : Str))
  else
    false
def i_isStored (p_val : Str) (p_gone : Bool) : Bool :=
  bif i_GoodVal p_val then
    bif p_gone then
      !(!(p_val == ([] : Str)))
    else
      !false
  else
    false
def i_GoodWrites_c1 (p_w : DWrite) : Bool :=
  !(i_isStored p_w.Val p_w.Gone)
def i_GoodWrites (p_l : List DWrite) : Bool :=
  bif decide ((p_l.length : Int) ≤ 24) then
    bif i_areRising (i_writeKeys p_l) then
      !(g_slices_ContainsFunc_Write p_l (fun y0 => i_GoodWrites_c1 y0))
    else
      false
  else
    false
def i_isRows_c1 (p_w : DWrite) : Bool :=
  p_w.Gone
def i_isRows (p_rows : List DWrite) : Bool :=
  bif i_GoodWrites p_rows then
    !(g_slices_ContainsFunc_Write p_rows (fun y0 => i_isRows_c1 y0))
  else
    false
def i_GoodCopy (p_c : DCopy) : Bool :=
  bif i_isTrue p_c.Time then
    bif i_isRows p_c.Rows then
      bif decide (0 < p_c.Time) then
        true
      else
        decide ((p_c.Rows.length : Int) = 0)
    else
      false
  else
    false
def B_i_numBytes_0 (p_n : Int) : Int × (List Int) → Out Str (Int × (List Int))
  | (x27, x28) => bif decide (128 ≤ x27) then
      .cont (IntKind.wrap .i64 (Int.tdiv x27 128), (x28 ++ ([IntKind.wrap .u8 ((IntKind.wrap .u8 (Int.tmod x27 128)) + 128)] : List Int)))
    else
      .brk (x27, x28)
def i_numBytes (p_n : Int) : Str :=
  loopE (loopW (B_i_numBytes_0 p_n) (((p_n).toNat) + 1) (p_n, ([] : List Int))) (fun r => r) (fun (x27, x28) =>
    toS (x28 ++ ([IntKind.wrap .u8 x27] : List Int)))
def i_textBytes (p_s : Str) : Str :=
  (i_numBytes (p_s.length : Int)) ++ p_s
def B_i_sumOf_0 (p_b : Str) (k2 : Nat) : Int → Out Int Int
  | (x3) => .cont (Int.tmod (IntKind.wrap .i64 ((IntKind.wrap .i64 ((IntKind.wrap .i64 (31 * x3)) + (IntKind.wrap .i64 ((p_b.getD k2 0).toNat : Int)))) + 1)) 16000057)
def i_sumOf (p_b : Str) : Int :=
  loopE (loopM (B_i_sumOf_0 p_b) (p_b.length - 0) 0 (7)) (fun r => r) (fun x3 =>
    x3)
def i_seal (p_b : Str) : Str :=
  p_b ++ (toS ([IntKind.wrap .u8 (Int.fdiv (i_sumOf p_b) 65536), IntKind.wrap .u8 (Int.fdiv (i_sumOf p_b) 256), IntKind.wrap .u8 (i_sumOf p_b)] : List Int))
def B_i_copyBytes_0 (p_c : DCopy) (k11 : Nat) : Str → Out Str Str
  | (x40) => .cont (x40 ++ ((i_textBytes ((p_c.Rows.getD k11 d_Write).Key)) ++ (i_textBytes ((p_c.Rows.getD k11 d_Write).Val))))
def i_copyBytes (p_c : DCopy) : Str :=
  loopE (loopM (B_i_copyBytes_0 p_c) (p_c.Rows.length - 0) 0 ((i_numBytes p_c.Time) ++ (i_numBytes (p_c.Rows.length : Int)))) (fun r => r) (fun x40 =>
    (i_seal x40))
def i_CopyBytes (p_c : DCopy) : Str × Bool :=
  bif i_GoodCopy p_c then
    ((i_copyBytes p_c), true)
  else
    (([] : Str), false)
def l_FnExactCopyBytes (p_aC : DCopy) : Bool :=
  bif decide ((l_szCopy p_aC 1048576) < 0) then
    true
  else
    bif ((i_CopyBytes p_aC).1) == ((s_CopyBytes p_aC).1) then
      bif ((i_CopyBytes p_aC).2) == ((s_CopyBytes p_aC).2) then
        bif l_eqCopy p_aC p_aC then
          true
        else
          false
      else
        false
    else
      false
def s_GoodCopy (p_c : DCopy) : Bool :=
  (s_l31Copy p_c)
end Go.Proofs.Ytmlfbjlkccnpmaa
