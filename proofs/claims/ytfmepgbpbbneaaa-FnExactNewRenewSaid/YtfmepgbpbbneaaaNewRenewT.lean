/- New Renew: the plain forms of the values, and plain models of the functions. -/
import Derived.Test.YtfmepgbpbbneaaaE13
set_option linter.unusedVariables false
set_option linter.unusedSimpArgs false
namespace Go.Proofs.Ytfmepgbpbbneaaa
open Go.RowKit Go.X
structure DClock where
  Off : Int
def d_Clock : DClock := ⟨0⟩
def wf_Clock (x : DClock) : Prop := wfI x.Off
def e_Clock (x : DClock) : List Value := [.int .i64 x.Off]
theorem good_Clock : Gd (RF e_Clock) := RF.good fun _ => rfl
structure DVLease where
  Ver : Int
  Until : Int
def d_VLease : DVLease := ⟨0, 0⟩
def wf_VLease (x : DVLease) : Prop := wfI x.Ver ∧ wfI x.Until
def e_VLease (x : DVLease) : List Value := [.int .i64 x.Ver, .int .i64 x.Until]
theorem good_VLease : Gd (RF e_VLease) := RF.good fun _ => rfl
structure DRenew where
  Now : Int
  Master : DClock
  Clocks : List DClock
  Ver : Int
  Leases : List DVLease
def d_Renew : DRenew := ⟨0, d_Clock, [], 0, []⟩
def wf_Renew (x : DRenew) : Prop := wfI x.Now ∧ wf_Clock x.Master ∧ (wfL wf_Clock) x.Clocks ∧ wfI x.Ver ∧ (wfL wf_VLease) x.Leases
def ok_Renew (x : DRenew) : Prop := (okL okT) x.Clocks ∧ (okL okT) x.Leases
theorem ok_d_Renew : ok_Renew d_Renew := ⟨okL.nil _, okL.nil _⟩
def R_Renew : Rel DRenew := fun w S cs x => ∃ A1 c1 A2 c2, cs = [.int .i64 x.Now, .int .i64 x.Master.Off, .slice A1 x.Clocks.length c1, .int .i64 x.Ver, .slice A2 x.Leases.length c2] ∧ RdS w S (RF e_Clock) 1 A1 x.Clocks.length c1 x.Clocks ∧ RdS w S (RF e_VLease) 2 A2 x.Leases.length c2 x.Leases
theorem good_Renew : Gd R_Renew := ⟨fun ⟨A1, c1, A2, c2, he, h0, h1⟩ hk => ⟨A1, c1, A2, c2, he, RdS.keep good_Clock h0 hk, RdS.keep good_VLease h1 hk⟩, fun ⟨A1, c1, A2, c2, he, h0, h1⟩ hw => ⟨A1, c1, A2, c2, he, RdS.wide good_Clock h0 hw, RdS.wide good_VLease h1 hw⟩, fun ⟨A1, c1, A2, c2, he, h0, h1⟩ => by rw [he]; rfl⟩
structure DFeedItem where
  Time : Int
  Group : Int
  Key : Str
  Val : Str
  Gone : Bool
def d_FeedItem : DFeedItem := ⟨0, 0, [], [], false⟩
def wf_FeedItem (x : DFeedItem) : Prop := wfI x.Time ∧ wfI x.Group ∧ wfS x.Key ∧ wfS x.Val
def ok_FeedItem (x : DFeedItem) : Prop := okS x.Key ∧ okS x.Val
theorem ok_d_FeedItem : ok_FeedItem d_FeedItem := ⟨ok_d_Str, ok_d_Str⟩
def e_FeedItem (x : DFeedItem) : List Value := [.int .i64 x.Time, .int .i64 x.Group, .string (bs x.Key), .string (bs x.Val), .bool x.Gone]
theorem good_FeedItem : Gd (RF e_FeedItem) := RF.good fun _ => rfl
structure DIdx where
  Name : Str
  Col : Int
  Stage : Int
def d_Idx : DIdx := ⟨[], 0, 0⟩
def wf_Idx (x : DIdx) : Prop := wfS x.Name ∧ wfI x.Col ∧ wfI x.Stage
def ok_Idx (x : DIdx) : Prop := okS x.Name
theorem ok_d_Idx : ok_Idx d_Idx := ok_d_Str
def e_Idx (x : DIdx) : List Value := [.string (bs x.Name), .int .i64 x.Col, .int .i64 x.Stage]
theorem good_Idx : Gd (RF e_Idx) := RF.good fun _ => rfl
structure DTable where
  Name : Str
  Cols : List Str
  Idxs : List DIdx
def d_Table : DTable := ⟨[], [], []⟩
def wf_Table (x : DTable) : Prop := wfS x.Name ∧ (wfL wfS) x.Cols ∧ (wfL wf_Idx) x.Idxs
def ok_Table (x : DTable) : Prop := okS x.Name ∧ (okL okS) x.Cols ∧ (okL ok_Idx) x.Idxs
theorem ok_d_Table : ok_Table d_Table := ⟨ok_d_Str, okL.nil _, okL.nil _⟩
def R_Table : Rel DTable := fun w S cs x => ∃ A1 c1 A2 c2, cs = [.string (bs x.Name), .slice A1 x.Cols.length c1, .slice A2 x.Idxs.length c2] ∧ RdS w S (RF e_Str) 1 A1 x.Cols.length c1 x.Cols ∧ RdS w S (RF e_Idx) 3 A2 x.Idxs.length c2 x.Idxs
theorem good_Table : Gd R_Table := ⟨fun ⟨A1, c1, A2, c2, he, h0, h1⟩ hk => ⟨A1, c1, A2, c2, he, RdS.keep good_Str h0 hk, RdS.keep good_Idx h1 hk⟩, fun ⟨A1, c1, A2, c2, he, h0, h1⟩ hw => ⟨A1, c1, A2, c2, he, RdS.wide good_Str h0 hw, RdS.wide good_Idx h1 hw⟩, fun ⟨A1, c1, A2, c2, he, h0, h1⟩ => by rw [he]; rfl⟩
structure DWrite where
  Key : Str
  Val : Str
  Gone : Bool
def d_Write : DWrite := ⟨[], [], false⟩
def wf_Write (x : DWrite) : Prop := wfS x.Key ∧ wfS x.Val
def ok_Write (x : DWrite) : Prop := okS x.Key ∧ okS x.Val
theorem ok_d_Write : ok_Write d_Write := ⟨ok_d_Str, ok_d_Str⟩
def e_Write (x : DWrite) : List Value := [.string (bs x.Key), .string (bs x.Val), .bool x.Gone]
theorem good_Write : Gd (RF e_Write) := RF.good fun _ => rfl
structure DBoundsError where
  x : Int
  y : Int
  signed : Bool
  code : Int
def d_BoundsError : DBoundsError := ⟨0, 0, false, 0⟩
def wf_BoundsError (x : DBoundsError) : Prop := wfI x.x ∧ wfI x.y ∧ wfI x.code
def e_BoundsError (x : DBoundsError) : List Value := [.int .i64 x.x, .int .i64 x.y, .bool x.signed, .int .u8 x.code]
theorem good_BoundsError : Gd (RF e_BoundsError) := RF.good fun _ => rfl
structure DErrorAddressString where
  msg : Str
  addr : Int
def d_ErrorAddressString : DErrorAddressString := ⟨[], 0⟩
def wf_ErrorAddressString (x : DErrorAddressString) : Prop := wfS x.msg ∧ wfI x.addr
def ok_ErrorAddressString (x : DErrorAddressString) : Prop := okS x.msg
theorem ok_d_ErrorAddressString : ok_ErrorAddressString d_ErrorAddressString := ok_d_Str
def e_ErrorAddressString (x : DErrorAddressString) : List Value := [.string (bs x.msg), .int .u64 x.addr]
theorem good_ErrorAddressString : Gd (RF e_ErrorAddressString) := RF.good fun _ => rfl
structure DDiff where
  From : Int
  To : Int
  List : List DFeedItem
def d_Diff : DDiff := ⟨0, 0, []⟩
def wf_Diff (x : DDiff) : Prop := wfI x.From ∧ wfI x.To ∧ (wfL wf_FeedItem) x.List
def ok_Diff (x : DDiff) : Prop := (okL ok_FeedItem) x.List
theorem ok_d_Diff : ok_Diff d_Diff := okL.nil _
def R_Diff : Rel DDiff := fun w S cs x => ∃ A1 c1, cs = [.int .i64 x.From, .int .i64 x.To, .slice A1 x.List.length c1] ∧ RdS w S (RF e_FeedItem) 5 A1 x.List.length c1 x.List
theorem good_Diff : Gd R_Diff := ⟨fun ⟨A1, c1, he, h0⟩ hk => ⟨A1, c1, he, RdS.keep good_FeedItem h0 hk⟩, fun ⟨A1, c1, he, h0⟩ hw => ⟨A1, c1, he, RdS.wide good_FeedItem h0 hw⟩, fun ⟨A1, c1, he, h0⟩ => by rw [he]; rfl⟩
structure DRow where
  Vals : List Str
def d_Row : DRow := ⟨[]⟩
def wf_Row (x : DRow) : Prop := (wfL wfS) x.Vals
def ok_Row (x : DRow) : Prop := (okL okS) x.Vals
theorem ok_d_Row : ok_Row d_Row := okL.nil _
def R_Row : Rel DRow := fun w S cs x => ∃ A1 c1, cs = [.slice A1 x.Vals.length c1] ∧ RdS w S (RF e_Str) 1 A1 x.Vals.length c1 x.Vals
theorem good_Row : Gd R_Row := ⟨fun ⟨A1, c1, he, h0⟩ hk => ⟨A1, c1, he, RdS.keep good_Str h0 hk⟩, fun ⟨A1, c1, he, h0⟩ hw => ⟨A1, c1, he, RdS.wide good_Str h0 hw⟩, fun ⟨A1, c1, he, h0⟩ => by rw [he]; rfl⟩
structure DRowAct where
  Kind : Int
  Old : DRow
  New : DRow
def d_RowAct : DRowAct := ⟨0, d_Row, d_Row⟩
def wf_RowAct (x : DRowAct) : Prop := wfI x.Kind ∧ wf_Row x.Old ∧ wf_Row x.New
def ok_RowAct (x : DRowAct) : Prop := ok_Row x.Old ∧ ok_Row x.New
theorem ok_d_RowAct : ok_RowAct d_RowAct := ⟨ok_d_Row, ok_d_Row⟩
def R_RowAct : Rel DRowAct := fun w S cs x => ∃ A1 c1 A2 c2, cs = [.int .i64 x.Kind, .slice A1 x.Old.Vals.length c1, .slice A2 x.New.Vals.length c2] ∧ RdS w S (RF e_Str) 1 A1 x.Old.Vals.length c1 x.Old.Vals ∧ RdS w S (RF e_Str) 1 A2 x.New.Vals.length c2 x.New.Vals
theorem good_RowAct : Gd R_RowAct := ⟨fun ⟨A1, c1, A2, c2, he, h0, h1⟩ hk => ⟨A1, c1, A2, c2, he, RdS.keep good_Str h0 hk, RdS.keep good_Str h1 hk⟩, fun ⟨A1, c1, A2, c2, he, h0, h1⟩ hw => ⟨A1, c1, A2, c2, he, RdS.wide good_Str h0 hw, RdS.wide good_Str h1 hw⟩, fun ⟨A1, c1, A2, c2, he, h0, h1⟩ => by rw [he]; rfl⟩
structure DStmt where
  Kind : Int
  Act : DRowAct
  Idx : Str
  Low : Str
  High : Str
def d_Stmt : DStmt := ⟨0, d_RowAct, [], [], []⟩
def wf_Stmt (x : DStmt) : Prop := wfI x.Kind ∧ wf_RowAct x.Act ∧ wfS x.Idx ∧ wfS x.Low ∧ wfS x.High
def ok_Stmt (x : DStmt) : Prop := ok_RowAct x.Act ∧ okS x.Idx ∧ okS x.Low ∧ okS x.High
theorem ok_d_Stmt : ok_Stmt d_Stmt := ⟨ok_d_RowAct, ok_d_Str, ok_d_Str, ok_d_Str⟩
def R_Stmt : Rel DStmt := fun w S cs x => ∃ A1 c1 A2 c2, cs = [.int .i64 x.Kind, .int .i64 x.Act.Kind, .slice A1 x.Act.Old.Vals.length c1, .slice A2 x.Act.New.Vals.length c2, .string (bs x.Idx), .string (bs x.Low), .string (bs x.High)] ∧ RdS w S (RF e_Str) 1 A1 x.Act.Old.Vals.length c1 x.Act.Old.Vals ∧ RdS w S (RF e_Str) 1 A2 x.Act.New.Vals.length c2 x.Act.New.Vals
theorem good_Stmt : Gd R_Stmt := ⟨fun ⟨A1, c1, A2, c2, he, h0, h1⟩ hk => ⟨A1, c1, A2, c2, he, RdS.keep good_Str h0 hk, RdS.keep good_Str h1 hk⟩, fun ⟨A1, c1, A2, c2, he, h0, h1⟩ hw => ⟨A1, c1, A2, c2, he, RdS.wide good_Str h0 hw, RdS.wide good_Str h1 hw⟩, fun ⟨A1, c1, A2, c2, he, h0, h1⟩ => by rw [he]; rfl⟩
structure DShift where
  Name : Str
  Ways : List DTable
  At : List Int
  Store : List DWrite
def d_Shift : DShift := ⟨[], [], [], []⟩
def wf_Shift (x : DShift) : Prop := wfS x.Name ∧ (wfL wf_Table) x.Ways ∧ (wfL wfI) x.At ∧ (wfL wf_Write) x.Store
def ok_Shift (x : DShift) : Prop := okS x.Name ∧ (okL ok_Table) x.Ways ∧ (okL okT) x.At ∧ (okL ok_Write) x.Store
theorem ok_d_Shift : ok_Shift d_Shift := ⟨ok_d_Str, okL.nil _, okL.nil _, okL.nil _⟩
def R_Shift : Rel DShift := fun w S cs x => ∃ A1 c1 A2 c2 A3 c3, cs = [.string (bs x.Name), .slice A1 x.Ways.length c1, .slice A2 x.At.length c2, .slice A3 x.Store.length c3] ∧ RdS w S R_Table 3 A1 x.Ways.length c1 x.Ways ∧ RdS w S (RF e_Int) 1 A2 x.At.length c2 x.At ∧ RdS w S (RF e_Write) 3 A3 x.Store.length c3 x.Store
theorem good_Shift : Gd R_Shift := ⟨fun ⟨A1, c1, A2, c2, A3, c3, he, h0, h1, h2⟩ hk => ⟨A1, c1, A2, c2, A3, c3, he, RdS.keep good_Table h0 hk, RdS.keep good_Int h1 hk, RdS.keep good_Write h2 hk⟩, fun ⟨A1, c1, A2, c2, A3, c3, he, h0, h1, h2⟩ hw => ⟨A1, c1, A2, c2, A3, c3, he, RdS.wide good_Table h0 hw, RdS.wide good_Int h1 hw, RdS.wide good_Write h2 hw⟩, fun ⟨A1, c1, A2, c2, A3, c3, he, h0, h1, h2⟩ => by rw [he]; rfl⟩
structure DSpan where
  Low : Int
  High : Int
def d_Span : DSpan := ⟨0, 0⟩
def wf_Span (x : DSpan) : Prop := wfI x.Low ∧ wfI x.High
def e_Span (x : DSpan) : List Value := [.int .i64 x.Low, .int .i64 x.High]
theorem good_Span : Gd (RF e_Span) := RF.good fun _ => rfl
def s_l1In (p_n : Int) (p_lo : Int) (p_hi : Int) : Bool :=
  bif decide (p_lo ≤ p_n) then
    decide (p_n ≤ p_hi)
  else
    false
def s_NewRenew (p_servers : Int) : DRenew × Bool :=
  bif s_l1In p_servers 1 3 then
    ((⟨0, (⟨0⟩ : DClock), (List.replicate ((p_servers).toNat) d_Clock), 0, (List.replicate ((p_servers).toNat) d_VLease)⟩ : DRenew), true)
  else
    ((⟨0, (⟨0⟩ : DClock), [], 0, []⟩ : DRenew), false)
def i_within (p_n : Int) (p_low : Int) (p_high : Int) : Bool :=
  bif decide (p_low ≤ p_n) then
    decide (p_n ≤ p_high)
  else
    false
def i_NewRenew (p_servers : Int) : DRenew × Bool :=
  bif i_within p_servers 1 3 then
    ((⟨0, (⟨0⟩ : DClock), (List.replicate ((p_servers).toNat) d_Clock), 0, (List.replicate ((p_servers).toNat) d_VLease)⟩ : DRenew), true)
  else
    ((⟨0, (⟨0⟩ : DClock), [], 0, []⟩ : DRenew), false)
def l_eqClock (p_a : DClock) (p_b : DClock) : Bool :=
  bif decide (p_a.Off = p_b.Off) then
    true
  else
    false
def B_l_eqClockS_0 (p_a : List DClock) (p_b : List DClock) (k4 : Nat) : Unit → Out Bool Unit
  | () => bif l_eqClock (p_a.getD k4 d_Clock) (p_b.getD k4 d_Clock) then
      .cont ()
    else
      .ret false
def l_eqClockS (p_a : List DClock) (p_b : List DClock) : Bool :=
  bif decide ((p_a.length : Int) = (p_b.length : Int)) then
    loopE (loopM (B_l_eqClockS_0 p_a p_b) (p_a.length - 0) 0 ()) (fun r => r) (fun _ =>
      true)
  else
    false
def l_eqVLease (p_a : DVLease) (p_b : DVLease) : Bool :=
  bif decide (p_a.Ver = p_b.Ver) then
    bif decide (p_a.Until = p_b.Until) then
      true
    else
      false
  else
    false
def B_l_eqVLeaseS_0 (p_a : List DVLease) (p_b : List DVLease) (k4 : Nat) : Unit → Out Bool Unit
  | () => bif l_eqVLease (p_a.getD k4 d_VLease) (p_b.getD k4 d_VLease) then
      .cont ()
    else
      .ret false
def l_eqVLeaseS (p_a : List DVLease) (p_b : List DVLease) : Bool :=
  bif decide ((p_a.length : Int) = (p_b.length : Int)) then
    loopE (loopM (B_l_eqVLeaseS_0 p_a p_b) (p_a.length - 0) 0 ()) (fun r => r) (fun _ =>
      true)
  else
    false
def l_eqRenew (p_a : DRenew) (p_b : DRenew) : Bool :=
  bif decide (p_a.Now = p_b.Now) then
    bif l_eqClock p_a.Master p_b.Master then
      bif l_eqClockS p_a.Clocks p_b.Clocks then
        bif decide (p_a.Ver = p_b.Ver) then
          bif l_eqVLeaseS p_a.Leases p_b.Leases then
            true
          else
            false
        else
          false
      else
        false
    else
      false
  else
    false
def B_l_markClockS_0 (p_a : List DClock) (p_k : Int) (k3 : Nat) : Int × (List DClock) → Out (Int × (List DClock)) (Int × (List DClock))
  | (x11, x12) => .cont (IntKind.wrap .i64 (x11 + 1), (x12.set k3 (⟨x11⟩ : DClock)))
def l_markClockS (p_a : List DClock) (p_k : Int) : Int × (List DClock) :=
  loopE (loopM (B_l_markClockS_0 p_a p_k) (p_a.length - 0) 0 (p_k, p_a)) (fun r => r) (fun (x11, x12) =>
    (x11, x12))
def B_l_markVLeaseS_0 (p_a : List DVLease) (p_k : Int) (k3 : Nat) : Int × (List DVLease) → Out (Int × (List DVLease)) (Int × (List DVLease))
  | (x17, x18) => .cont (IntKind.wrap .i64 ((IntKind.wrap .i64 (x17 + 1)) + 1), ((x18.set k3 (⟨x17, (x18.getD k3 d_VLease).Until⟩ : DVLease)).set k3 (⟨((x18.set k3 (⟨x17, (x18.getD k3 d_VLease).Until⟩ : DVLease)).getD k3 d_VLease).Ver, IntKind.wrap .i64 (x17 + 1)⟩ : DVLease)))
def l_markVLeaseS (p_a : List DVLease) (p_k : Int) : Int × (List DVLease) :=
  loopE (loopM (B_l_markVLeaseS_0 p_a p_k) (p_a.length - 0) 0 (p_k, p_a)) (fun r => r) (fun (x17, x18) =>
    (x17, x18))
def l_markRenew (p_a : DRenew) (p_k : Int) : Int × DRenew :=
  ((l_markVLeaseS p_a.Leases ((l_markClockS p_a.Clocks p_k).1)).1, (⟨p_a.Now, p_a.Master, (l_markClockS p_a.Clocks p_k).2, p_a.Ver, (l_markVLeaseS p_a.Leases ((l_markClockS p_a.Clocks p_k).1)).2⟩ : DRenew))
def B_l_heldClockS_0 (p_a : List DClock) (p_k : Int) (k2 : Nat) : Int → Out Int Int
  | (x3) => bif decide (((p_a.getD k2 d_Clock).Off) = x3) then
      .cont (IntKind.wrap .i64 (x3 + 1))
    else
      .ret (-1)
def l_heldClockS (p_a : List DClock) (p_k : Int) : Int :=
  loopE (loopM (B_l_heldClockS_0 p_a p_k) (p_a.length - 0) 0 (p_k)) (fun r => r) (fun x3 =>
    x3)
def B_l_heldVLeaseS_0 (p_a : List DVLease) (p_k : Int) (k2 : Nat) : Int → Out Int Int
  | (x3) => bif decide (((p_a.getD k2 d_VLease).Ver) = x3) then
      bif decide (((p_a.getD k2 d_VLease).Until) = (IntKind.wrap .i64 (x3 + 1))) then
        .cont (IntKind.wrap .i64 ((IntKind.wrap .i64 (x3 + 1)) + 1))
      else
        .ret (-1)
    else
      .ret (-1)
def l_heldVLeaseS (p_a : List DVLease) (p_k : Int) : Int :=
  loopE (loopM (B_l_heldVLeaseS_0 p_a p_k) (p_a.length - 0) 0 (p_k)) (fun r => r) (fun x3 =>
    x3)
def l_heldRenew (p_a : DRenew) (p_k : Int) : Int :=
  bif decide ((l_heldClockS p_a.Clocks p_k) < 0) then
    -1
  else
    bif decide ((l_heldVLeaseS p_a.Leases (l_heldClockS p_a.Clocks p_k)) < 0) then
      -1
    else
      (l_heldVLeaseS p_a.Leases (l_heldClockS p_a.Clocks p_k))
def l_FnExactNewRenew (p_aServers : Int) : Bool :=
  bif l_eqRenew ((i_NewRenew p_aServers).1) ((s_NewRenew p_aServers).1) then
    bif ((i_NewRenew p_aServers).2) == ((s_NewRenew p_aServers).2) then
      bif decide ((l_heldRenew (⟨(i_NewRenew p_aServers).1.Now, (i_NewRenew p_aServers).1.Master, (l_markRenew ((i_NewRenew p_aServers).1) 1).2.Clocks, (i_NewRenew p_aServers).1.Ver, (l_markRenew ((i_NewRenew p_aServers).1) 1).2.Leases⟩ : DRenew) 1) < 0) then
        false
      else
        bif decide ((l_heldRenew (⟨(i_NewRenew p_aServers).1.Now, (i_NewRenew p_aServers).1.Master, (l_markRenew ((i_NewRenew p_aServers).1) 1).2.Clocks, (i_NewRenew p_aServers).1.Ver, (l_markRenew ((i_NewRenew p_aServers).1) 1).2.Leases⟩ : DRenew) 1) = ((l_markRenew ((i_NewRenew p_aServers).1) 1).1)) then
          true
        else
          false
    else
      false
  else
    false

end Go.Proofs.Ytfmepgbpbbneaaa
