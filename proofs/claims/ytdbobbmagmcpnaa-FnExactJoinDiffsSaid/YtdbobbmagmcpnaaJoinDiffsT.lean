/- Join Diffs: the plain forms of the values, and plain models of the functions. -/
import Derived.Test.YtdbobbmagmcpnaaE17
set_option linter.unusedVariables false
set_option linter.unusedSimpArgs false
namespace Go.Proofs.Ytdbobbmagmcpnaa
open Go.RowKit Go.X
structure DFeedItem where
  Time : Int
  Group : Int
  Key : Str
  Val : Str
  Gone : Bool
def d_FeedItem : DFeedItem := ⟨0, 0, [], [], false⟩
def wf_FeedItem (x : DFeedItem) : Prop := wfI x.Time ∧ wfI x.Group ∧ wfS x.Key ∧ wfS x.Val
def ok_FeedItem (x : DFeedItem) : Prop := okS x.Key ∧ okS x.Val
theorem ok_d_FeedItem : ok_FeedItem d_FeedItem := ⟨ok_d_Str, ok_d_Str⟩
def e_FeedItem (x : DFeedItem) : List Value := [.int .i64 x.Time, .int .i64 x.Group, .string (bs x.Key), .string (bs x.Val), .bool x.Gone]
theorem good_FeedItem : Gd (RF e_FeedItem) := RF.good fun _ => rfl
structure DDiff where
  From : Int
  To : Int
  List : List DFeedItem
def d_Diff : DDiff := ⟨0, 0, []⟩
def wf_Diff (x : DDiff) : Prop := wfI x.From ∧ wfI x.To ∧ (wfL wf_FeedItem) x.List
def ok_Diff (x : DDiff) : Prop := (okL ok_FeedItem) x.List
theorem ok_d_Diff : ok_Diff d_Diff := okL.nil _
def R_Diff : Rel DDiff := fun w S cs x => ∃ A1 c1, cs = [.int .i64 x.From, .int .i64 x.To, .slice A1 x.List.length c1] ∧ RdS w S (RF e_FeedItem) 5 A1 x.List.length c1 x.List
def RO_Diff : RelO DDiff := fun w l h cs x => ∃ A1 c1 lo1 hi1, cs = [.int .i64 x.From, .int .i64 x.To, .slice A1 x.List.length c1] ∧ OwnL w lo1 hi1 140 5 (RF e_FeedItem) A1 x.List.length c1 x.List ∧ (l ≤ lo1 ∧ lo1 ≤ hi1 ∧ hi1 ≤ h)
theorem good_Diff : Gd R_Diff := ⟨fun ⟨A1, c1, he, h0⟩ hk => ⟨A1, c1, he, RdS.keep good_FeedItem h0 hk⟩, fun ⟨A1, c1, he, h0⟩ hw => ⟨A1, c1, he, RdS.wide good_FeedItem h0 hw⟩, fun ⟨A1, c1, he, h0⟩ => by rw [he]; rfl⟩
theorem goodO_Diff : GdO RO_Diff R_Diff := ⟨fun ⟨A1, c1, lo1, hi1, he, h1, r0⟩ hk => ⟨A1, c1, lo1, hi1, he, OwnL.keep good_FeedItem h1 (fun b b1 b2 b3 => hk b (by omega) (by omega) b3), r0⟩, fun ⟨A1, c1, lo1, hi1, he, h1, r0⟩ => by rw [he]; rfl, fun ⟨A1, c1, lo1, hi1, he, h1, r0⟩ => ⟨A1, c1, he, RdS.wide good_FeedItem (OwnL.rdI good_FeedItem h1) (fun b hb _ => ⟨by have := hb.1; omega, by have := hb.2; omega⟩)⟩⟩
theorem mkO_Diff {w : World} {l h : Nat} {z0 : Int} {z1 : Int} {lo1 hi1 n1 c1 : Nat} {A1 : Option Addr} {y1 : List DFeedItem} (h1 : OwnL w lo1 hi1 140 5 (RF e_FeedItem) A1 n1 c1 y1) (r0 : (l ≤ lo1 ∧ lo1 ≤ hi1 ∧ hi1 ≤ h)) : RO_Diff w l h [.int .i64 z0, .int .i64 z1, .slice A1 n1 c1] ⟨z0, z1, y1⟩ := by
  obtain rfl := h1.1
  exact ⟨A1, c1, lo1, hi1, rfl, h1, r0⟩
structure DIdx where
  Name : Str
  Col : Int
  Stage : Int
def d_Idx : DIdx := ⟨[], 0, 0⟩
def wf_Idx (x : DIdx) : Prop := wfS x.Name ∧ wfI x.Col ∧ wfI x.Stage
def ok_Idx (x : DIdx) : Prop := okS x.Name
theorem ok_d_Idx : ok_Idx d_Idx := ok_d_Str
def e_Idx (x : DIdx) : List Value := [.string (bs x.Name), .int .i64 x.Col, .int .i64 x.Stage]
theorem good_Idx : Gd (RF e_Idx) := RF.good fun _ => rfl
structure DWrite where
  Key : Str
  Val : Str
  Gone : Bool
def d_Write : DWrite := ⟨[], [], false⟩
def wf_Write (x : DWrite) : Prop := wfS x.Key ∧ wfS x.Val
def ok_Write (x : DWrite) : Prop := okS x.Key ∧ okS x.Val
theorem ok_d_Write : ok_Write d_Write := ⟨ok_d_Str, ok_d_Str⟩
def e_Write (x : DWrite) : List Value := [.string (bs x.Key), .string (bs x.Val), .bool x.Gone]
theorem good_Write : Gd (RF e_Write) := RF.good fun _ => rfl
structure DTable where
  Name : Str
  Cols : List Str
  Idxs : List DIdx
def d_Table : DTable := ⟨[], [], []⟩
def wf_Table (x : DTable) : Prop := wfS x.Name ∧ (wfL wfS) x.Cols ∧ (wfL wf_Idx) x.Idxs
def ok_Table (x : DTable) : Prop := okS x.Name ∧ (okL okS) x.Cols ∧ (okL ok_Idx) x.Idxs
theorem ok_d_Table : ok_Table d_Table := ⟨ok_d_Str, okL.nil _, okL.nil _⟩
def R_Table : Rel DTable := fun w S cs x => ∃ A1 c1 A2 c2, cs = [.string (bs x.Name), .slice A1 x.Cols.length c1, .slice A2 x.Idxs.length c2] ∧ RdS w S (RF e_Str) 1 A1 x.Cols.length c1 x.Cols ∧ RdS w S (RF e_Idx) 3 A2 x.Idxs.length c2 x.Idxs
def RO_Table : RelO DTable := fun w l h cs x => ∃ A1 c1 lo1 hi1 A2 c2 lo2 hi2, cs = [.string (bs x.Name), .slice A1 x.Cols.length c1, .slice A2 x.Idxs.length c2] ∧ OwnL w lo1 hi1 9 1 (RF e_Str) A1 x.Cols.length c1 x.Cols ∧ OwnL w lo2 hi2 171 3 (RF e_Idx) A2 x.Idxs.length c2 x.Idxs ∧ (l ≤ lo1 ∧ lo1 ≤ hi1 ∧ hi1 ≤ h) ∧ (l ≤ lo2 ∧ lo2 ≤ hi2 ∧ hi2 ≤ h) ∧ (hi1 ≤ lo2 ∨ hi2 ≤ lo1)
theorem good_Table : Gd R_Table := ⟨fun ⟨A1, c1, A2, c2, he, h0, h1⟩ hk => ⟨A1, c1, A2, c2, he, RdS.keep good_Str h0 hk, RdS.keep good_Idx h1 hk⟩, fun ⟨A1, c1, A2, c2, he, h0, h1⟩ hw => ⟨A1, c1, A2, c2, he, RdS.wide good_Str h0 hw, RdS.wide good_Idx h1 hw⟩, fun ⟨A1, c1, A2, c2, he, h0, h1⟩ => by rw [he]; rfl⟩
theorem goodO_Table : GdO RO_Table R_Table := ⟨fun ⟨A1, c1, lo1, hi1, A2, c2, lo2, hi2, he, h1, h2, r0, r1, r2⟩ hk => ⟨A1, c1, lo1, hi1, A2, c2, lo2, hi2, he, OwnL.keep good_Str h1 (fun b b1 b2 b3 => hk b (by omega) (by omega) b3), OwnL.keep good_Idx h2 (fun b b1 b2 b3 => hk b (by omega) (by omega) b3), r0, r1, r2⟩, fun ⟨A1, c1, lo1, hi1, A2, c2, lo2, hi2, he, h1, h2, r0, r1, r2⟩ => by rw [he]; rfl, fun ⟨A1, c1, lo1, hi1, A2, c2, lo2, hi2, he, h1, h2, r0, r1, r2⟩ => ⟨A1, c1, A2, c2, he, RdS.wide good_Str (OwnL.rdI good_Str h1) (fun b hb _ => ⟨by have := hb.1; omega, by have := hb.2; omega⟩), RdS.wide good_Idx (OwnL.rdI good_Idx h2) (fun b hb _ => ⟨by have := hb.1; omega, by have := hb.2; omega⟩)⟩⟩
theorem mkO_Table {w : World} {l h : Nat} {z0 : Str} {lo1 hi1 n1 c1 : Nat} {A1 : Option Addr} {y1 : List Str} {lo2 hi2 n2 c2 : Nat} {A2 : Option Addr} {y2 : List DIdx} (h1 : OwnL w lo1 hi1 9 1 (RF e_Str) A1 n1 c1 y1) (h2 : OwnL w lo2 hi2 171 3 (RF e_Idx) A2 n2 c2 y2) (r0 : (l ≤ lo1 ∧ lo1 ≤ hi1 ∧ hi1 ≤ h)) (r1 : (l ≤ lo2 ∧ lo2 ≤ hi2 ∧ hi2 ≤ h)) (r2 : (hi1 ≤ lo2 ∨ hi2 ≤ lo1)) : RO_Table w l h [.string (bs z0), .slice A1 n1 c1, .slice A2 n2 c2] ⟨z0, y1, y2⟩ := by
  obtain rfl := h1.1; obtain rfl := h2.1
  exact ⟨A1, c1, lo1, hi1, A2, c2, lo2, hi2, rfl, h1, h2, r0, r1, r2⟩
structure DVer where
  Time : Int
  Val : Str
  Gone : Bool
def d_Ver : DVer := ⟨0, [], false⟩
def wf_Ver (x : DVer) : Prop := wfI x.Time ∧ wfS x.Val
def ok_Ver (x : DVer) : Prop := okS x.Val
theorem ok_d_Ver : ok_Ver d_Ver := ok_d_Str
def e_Ver (x : DVer) : List Value := [.int .i64 x.Time, .string (bs x.Val), .bool x.Gone]
theorem good_Ver : Gd (RF e_Ver) := RF.good fun _ => rfl
structure DCell where
  Key : Str
  Vers : List DVer
def d_Cell : DCell := ⟨[], []⟩
def wf_Cell (x : DCell) : Prop := wfS x.Key ∧ (wfL wf_Ver) x.Vers
def ok_Cell (x : DCell) : Prop := okS x.Key ∧ (okL ok_Ver) x.Vers
theorem ok_d_Cell : ok_Cell d_Cell := ⟨ok_d_Str, okL.nil _⟩
def R_Cell : Rel DCell := fun w S cs x => ∃ A1 c1, cs = [.string (bs x.Key), .slice A1 x.Vers.length c1] ∧ RdS w S (RF e_Ver) 3 A1 x.Vers.length c1 x.Vers
def RO_Cell : RelO DCell := fun w l h cs x => ∃ A1 c1 lo1 hi1, cs = [.string (bs x.Key), .slice A1 x.Vers.length c1] ∧ OwnL w lo1 hi1 125 3 (RF e_Ver) A1 x.Vers.length c1 x.Vers ∧ (l ≤ lo1 ∧ lo1 ≤ hi1 ∧ hi1 ≤ h)
theorem good_Cell : Gd R_Cell := ⟨fun ⟨A1, c1, he, h0⟩ hk => ⟨A1, c1, he, RdS.keep good_Ver h0 hk⟩, fun ⟨A1, c1, he, h0⟩ hw => ⟨A1, c1, he, RdS.wide good_Ver h0 hw⟩, fun ⟨A1, c1, he, h0⟩ => by rw [he]; rfl⟩
theorem goodO_Cell : GdO RO_Cell R_Cell := ⟨fun ⟨A1, c1, lo1, hi1, he, h1, r0⟩ hk => ⟨A1, c1, lo1, hi1, he, OwnL.keep good_Ver h1 (fun b b1 b2 b3 => hk b (by omega) (by omega) b3), r0⟩, fun ⟨A1, c1, lo1, hi1, he, h1, r0⟩ => by rw [he]; rfl, fun ⟨A1, c1, lo1, hi1, he, h1, r0⟩ => ⟨A1, c1, he, RdS.wide good_Ver (OwnL.rdI good_Ver h1) (fun b hb _ => ⟨by have := hb.1; omega, by have := hb.2; omega⟩)⟩⟩
theorem mkO_Cell {w : World} {l h : Nat} {z0 : Str} {lo1 hi1 n1 c1 : Nat} {A1 : Option Addr} {y1 : List DVer} (h1 : OwnL w lo1 hi1 125 3 (RF e_Ver) A1 n1 c1 y1) (r0 : (l ≤ lo1 ∧ lo1 ≤ hi1 ∧ hi1 ≤ h)) : RO_Cell w l h [.string (bs z0), .slice A1 n1 c1] ⟨z0, y1⟩ := by
  obtain rfl := h1.1
  exact ⟨A1, c1, lo1, hi1, rfl, h1, r0⟩
structure DBoundsError where
  x : Int
  y : Int
  signed : Bool
  code : Int
def d_BoundsError : DBoundsError := ⟨0, 0, false, 0⟩
def wf_BoundsError (x : DBoundsError) : Prop := wfI x.x ∧ wfI x.y ∧ wfI x.code
def e_BoundsError (x : DBoundsError) : List Value := [.int .i64 x.x, .int .i64 x.y, .bool x.signed, .int .u8 x.code]
theorem good_BoundsError : Gd (RF e_BoundsError) := RF.good fun _ => rfl
structure DErrorAddressString where
  msg : Str
  addr : Int
def d_ErrorAddressString : DErrorAddressString := ⟨[], 0⟩
def wf_ErrorAddressString (x : DErrorAddressString) : Prop := wfS x.msg ∧ wfI x.addr
def ok_ErrorAddressString (x : DErrorAddressString) : Prop := okS x.msg
theorem ok_d_ErrorAddressString : ok_ErrorAddressString d_ErrorAddressString := ok_d_Str
def e_ErrorAddressString (x : DErrorAddressString) : List Value := [.string (bs x.msg), .int .u64 x.addr]
theorem good_ErrorAddressString : Gd (RF e_ErrorAddressString) := RF.good fun _ => rfl
structure DRow where
  Vals : List Str
def d_Row : DRow := ⟨[]⟩
def wf_Row (x : DRow) : Prop := (wfL wfS) x.Vals
def ok_Row (x : DRow) : Prop := (okL okS) x.Vals
theorem ok_d_Row : ok_Row d_Row := okL.nil _
def R_Row : Rel DRow := fun w S cs x => ∃ A1 c1, cs = [.slice A1 x.Vals.length c1] ∧ RdS w S (RF e_Str) 1 A1 x.Vals.length c1 x.Vals
def RO_Row : RelO DRow := fun w l h cs x => ∃ A1 c1 lo1 hi1, cs = [.slice A1 x.Vals.length c1] ∧ OwnL w lo1 hi1 9 1 (RF e_Str) A1 x.Vals.length c1 x.Vals ∧ (l ≤ lo1 ∧ lo1 ≤ hi1 ∧ hi1 ≤ h)
theorem good_Row : Gd R_Row := ⟨fun ⟨A1, c1, he, h0⟩ hk => ⟨A1, c1, he, RdS.keep good_Str h0 hk⟩, fun ⟨A1, c1, he, h0⟩ hw => ⟨A1, c1, he, RdS.wide good_Str h0 hw⟩, fun ⟨A1, c1, he, h0⟩ => by rw [he]; rfl⟩
theorem goodO_Row : GdO RO_Row R_Row := ⟨fun ⟨A1, c1, lo1, hi1, he, h1, r0⟩ hk => ⟨A1, c1, lo1, hi1, he, OwnL.keep good_Str h1 (fun b b1 b2 b3 => hk b (by omega) (by omega) b3), r0⟩, fun ⟨A1, c1, lo1, hi1, he, h1, r0⟩ => by rw [he]; rfl, fun ⟨A1, c1, lo1, hi1, he, h1, r0⟩ => ⟨A1, c1, he, RdS.wide good_Str (OwnL.rdI good_Str h1) (fun b hb _ => ⟨by have := hb.1; omega, by have := hb.2; omega⟩)⟩⟩
theorem mkO_Row {w : World} {l h : Nat} {lo1 hi1 n1 c1 : Nat} {A1 : Option Addr} {y1 : List Str} (h1 : OwnL w lo1 hi1 9 1 (RF e_Str) A1 n1 c1 y1) (r0 : (l ≤ lo1 ∧ lo1 ≤ hi1 ∧ hi1 ≤ h)) : RO_Row w l h [.slice A1 n1 c1] ⟨y1⟩ := by
  obtain rfl := h1.1
  exact ⟨A1, c1, lo1, hi1, rfl, h1, r0⟩
structure DShift where
  Name : Str
  Ways : List DTable
  At : List Int
  Store : List DWrite
def d_Shift : DShift := ⟨[], [], [], []⟩
def wf_Shift (x : DShift) : Prop := wfS x.Name ∧ (wfL wf_Table) x.Ways ∧ (wfL wfI) x.At ∧ (wfL wf_Write) x.Store
def ok_Shift (x : DShift) : Prop := okS x.Name ∧ (okL ok_Table) x.Ways ∧ (okL okT) x.At ∧ (okL ok_Write) x.Store
theorem ok_d_Shift : ok_Shift d_Shift := ⟨ok_d_Str, okL.nil _, okL.nil _, okL.nil _⟩
def R_Shift : Rel DShift := fun w S cs x => ∃ A1 c1 A2 c2 A3 c3, cs = [.string (bs x.Name), .slice A1 x.Ways.length c1, .slice A2 x.At.length c2, .slice A3 x.Store.length c3] ∧ RdS w S R_Table 3 A1 x.Ways.length c1 x.Ways ∧ RdS w S (RF e_Int) 1 A2 x.At.length c2 x.At ∧ RdS w S (RF e_Write) 3 A3 x.Store.length c3 x.Store
theorem good_Shift : Gd R_Shift := ⟨fun ⟨A1, c1, A2, c2, A3, c3, he, h0, h1, h2⟩ hk => ⟨A1, c1, A2, c2, A3, c3, he, RdS.keep good_Table h0 hk, RdS.keep good_Int h1 hk, RdS.keep good_Write h2 hk⟩, fun ⟨A1, c1, A2, c2, A3, c3, he, h0, h1, h2⟩ hw => ⟨A1, c1, A2, c2, A3, c3, he, RdS.wide good_Table h0 hw, RdS.wide good_Int h1 hw, RdS.wide good_Write h2 hw⟩, fun ⟨A1, c1, A2, c2, A3, c3, he, h0, h1, h2⟩ => by rw [he]; rfl⟩
structure DCopy where
  Time : Int
  Rows : List DWrite
def d_Copy : DCopy := ⟨0, []⟩
def wf_Copy (x : DCopy) : Prop := wfI x.Time ∧ (wfL wf_Write) x.Rows
def ok_Copy (x : DCopy) : Prop := (okL ok_Write) x.Rows
theorem ok_d_Copy : ok_Copy d_Copy := okL.nil _
def R_Copy : Rel DCopy := fun w S cs x => ∃ A1 c1, cs = [.int .i64 x.Time, .slice A1 x.Rows.length c1] ∧ RdS w S (RF e_Write) 3 A1 x.Rows.length c1 x.Rows
def RO_Copy : RelO DCopy := fun w l h cs x => ∃ A1 c1 lo1 hi1, cs = [.int .i64 x.Time, .slice A1 x.Rows.length c1] ∧ OwnL w lo1 hi1 31 3 (RF e_Write) A1 x.Rows.length c1 x.Rows ∧ (l ≤ lo1 ∧ lo1 ≤ hi1 ∧ hi1 ≤ h)
theorem good_Copy : Gd R_Copy := ⟨fun ⟨A1, c1, he, h0⟩ hk => ⟨A1, c1, he, RdS.keep good_Write h0 hk⟩, fun ⟨A1, c1, he, h0⟩ hw => ⟨A1, c1, he, RdS.wide good_Write h0 hw⟩, fun ⟨A1, c1, he, h0⟩ => by rw [he]; rfl⟩
theorem goodO_Copy : GdO RO_Copy R_Copy := ⟨fun ⟨A1, c1, lo1, hi1, he, h1, r0⟩ hk => ⟨A1, c1, lo1, hi1, he, OwnL.keep good_Write h1 (fun b b1 b2 b3 => hk b (by omega) (by omega) b3), r0⟩, fun ⟨A1, c1, lo1, hi1, he, h1, r0⟩ => by rw [he]; rfl, fun ⟨A1, c1, lo1, hi1, he, h1, r0⟩ => ⟨A1, c1, he, RdS.wide good_Write (OwnL.rdI good_Write h1) (fun b hb _ => ⟨by have := hb.1; omega, by have := hb.2; omega⟩)⟩⟩
theorem mkO_Copy {w : World} {l h : Nat} {z0 : Int} {lo1 hi1 n1 c1 : Nat} {A1 : Option Addr} {y1 : List DWrite} (h1 : OwnL w lo1 hi1 31 3 (RF e_Write) A1 n1 c1 y1) (r0 : (l ≤ lo1 ∧ lo1 ≤ hi1 ∧ hi1 ≤ h)) : RO_Copy w l h [.int .i64 z0, .slice A1 n1 c1] ⟨z0, y1⟩ := by
  obtain rfl := h1.1
  exact ⟨A1, c1, lo1, hi1, rfl, h1, r0⟩
structure DL1R where
  b : Str
  at_ : Int
  bad : Bool
def d_L1R : DL1R := ⟨[], 0, false⟩
def wf_L1R (x : DL1R) : Prop := wfS x.b ∧ wfI x.at_
def ok_L1R (x : DL1R) : Prop := okS x.b
theorem ok_d_L1R : ok_L1R d_L1R := ok_d_Str
def e_L1R (x : DL1R) : List Value := [.string (bs x.b), .int .i64 x.at_, .bool x.bad]
theorem good_L1R : Gd (RF e_L1R) := RF.good fun _ => rfl
structure DSource where
  b : Str
  at_ : Int
  failed : Bool
def d_Source : DSource := ⟨[], 0, false⟩
def wf_Source (x : DSource) : Prop := wfS x.b ∧ wfI x.at_
def ok_Source (x : DSource) : Prop := okS x.b
theorem ok_d_Source : ok_Source d_Source := ok_d_Str
def e_Source (x : DSource) : List Value := [.string (bs x.b), .int .i64 x.at_, .bool x.failed]
theorem good_Source : Gd (RF e_Source) := RF.good fun _ => rfl
def d_LFeedItem : List DFeedItem := []
def R_LFeedItem : Rel (List DFeedItem) := fun w S cs x => ∃ A1 c1, cs = [.slice A1 x.length c1] ∧ RdS w S (RF e_FeedItem) 5 A1 x.length c1 x
theorem good_LFeedItem : Gd R_LFeedItem := ⟨fun ⟨A1, c1, he, h0⟩ hk => ⟨A1, c1, he, RdS.keep good_FeedItem h0 hk⟩, fun ⟨A1, c1, he, h0⟩ hw => ⟨A1, c1, he, RdS.wide good_FeedItem h0 hw⟩, fun ⟨A1, c1, he, h0⟩ => by rw [he]; rfl⟩
theorem ok_d_LFeedItem : okL ok_FeedItem d_LFeedItem := okL.nil _
def l_szFeedItem (p_a : DFeedItem) (p_left : Int) : Int :=
  bif decide ((IntKind.wrap .i64 (p_left - (p_a.Key.length : Int))) < 0) then
    -1
  else
    bif decide ((IntKind.wrap .i64 ((IntKind.wrap .i64 (p_left - (p_a.Key.length : Int))) - (p_a.Val.length : Int))) < 0) then
      -1
    else
      IntKind.wrap .i64 ((IntKind.wrap .i64 (p_left - (p_a.Key.length : Int))) - (p_a.Val.length : Int))
def B_l_szFeedItemS_0 (p_a : List DFeedItem) (p_left : Int) (k3 : Nat) : Int → Out Int Int
  | (x4) => bif decide ((l_szFeedItem (p_a.getD k3 d_FeedItem) x4) < 0) then
      .ret (-1)
    else
      .cont ((l_szFeedItem (p_a.getD k3 d_FeedItem) x4))
def l_szFeedItemS (p_a : List DFeedItem) (p_left : Int) : Int :=
  bif decide ((IntKind.wrap .i64 (p_left - (p_a.length : Int))) < 0) then
    -1
  else
    loopE (loopM (B_l_szFeedItemS_0 p_a p_left) (p_a.length - 0) 0 (IntKind.wrap .i64 (p_left - (p_a.length : Int)))) (fun r => r) (fun x4 =>
      x4)
def l_szDiff (p_a : DDiff) (p_left : Int) : Int :=
  bif decide ((l_szFeedItemS p_a.List p_left) < 0) then
    -1
  else
    (l_szFeedItemS p_a.List p_left)
def s_l1In (p_n : Int) (p_lo : Int) (p_hi : Int) : Bool :=
  bif decide (p_lo ≤ p_n) then
    decide (p_n ≤ p_hi)
  else
    false
def B_s_l3Bytes_1 (p_s : Str) (p_more : Str) (k3 : Nat) (k6 : Nat) : Bool → Out Bool Bool
  | (x7) => bif x7 then
      .cont (true)
    else
      .cont (decide (((p_s.getD k3 0).toNat : Int) = ((p_more.getD k6 0).toNat : Int)))
def B_s_l3Bytes_0 (p_s : Str) (p_more : Str) (k3 : Nat) : Unit → Out Bool Unit
  | () => bif decide (97 ≤ ((p_s.getD k3 0).toNat : Int)) then
      bif decide (((p_s.getD k3 0).toNat : Int) ≤ 122) then
        loopE (loopM (B_s_l3Bytes_1 p_s p_more k3) (p_more.length - 0) 0 (true)) (fun r => Out.ret r) (fun x7 =>
          bif x7 then
            .cont ()
          else
            .ret false)
      else
        bif decide (48 ≤ ((p_s.getD k3 0).toNat : Int)) then
          loopE (loopM (B_s_l3Bytes_1 p_s p_more k3) (p_more.length - 0) 0 (decide (((p_s.getD k3 0).toNat : Int) ≤ 57))) (fun r => Out.ret r) (fun x12 =>
            bif x12 then
              .cont ()
            else
              .ret false)
        else
          loopE (loopM (B_s_l3Bytes_1 p_s p_more k3) (p_more.length - 0) 0 (false)) (fun r => Out.ret r) (fun x15 =>
            bif x15 then
              .cont ()
            else
              .ret false)
    else
      bif decide (48 ≤ ((p_s.getD k3 0).toNat : Int)) then
        loopE (loopM (B_s_l3Bytes_1 p_s p_more k3) (p_more.length - 0) 0 (decide (((p_s.getD k3 0).toNat : Int) ≤ 57))) (fun r => Out.ret r) (fun x19 =>
          bif x19 then
            .cont ()
          else
            .ret false)
      else
        loopE (loopM (B_s_l3Bytes_1 p_s p_more k3) (p_more.length - 0) 0 (false)) (fun r => Out.ret r) (fun x22 =>
          bif x22 then
            .cont ()
          else
            .ret false)
def s_l3Bytes (p_s : Str) (p_more : Str) : Bool :=
  loopE (loopM (B_s_l3Bytes_0 p_s p_more) (p_s.length - 0) 0 ()) (fun r => r) (fun _ =>
    true)
def s_l3Key (p_s : Str) : Bool :=
  bif s_l1In (p_s.length : Int) 1 12 then
    (s_l3Bytes p_s ([46, 47] : Str))
  else
    false
def s_l3Val (p_s : Str) : Bool :=
  bif decide ((p_s.length : Int) ≤ 24) then
    (s_l3Bytes p_s ([46, 45, 44, 95] : Str))
  else
    false
def s_l3Write (p_key : Str) (p_val : Str) (p_gone : Bool) : Bool :=
  bif s_l3Key p_key then
    bif s_l3Val p_val then
      bif p_gone then
        p_val == ([] : Str)
      else
        true
    else
      false
  else
    false
def s_l23Good (p_c : DFeedItem) : Bool :=
  bif s_l1In p_c.Time 1 100000 then
    bif s_l1In p_c.Group 0 3 then
      (s_l3Write p_c.Key p_c.Val p_c.Gone)
    else
      false
  else
    false
def s_l23Ahead (p_a : DFeedItem) (p_b : DFeedItem) : Bool :=
  bif decide (p_a.Time = p_b.Time) then
    bif decide (p_a.Group = p_b.Group) then
      sLt p_a.Key p_b.Key
    else
      decide (p_a.Group < p_b.Group)
  else
    decide (p_a.Time < p_b.Time)
def B_s_l23Feed_0 (p_l : List DFeedItem) (k3 : Nat) : Unit → Out Bool Unit
  | () => bif decide ((k3 : Int) ≤ 400) then
      bif s_l23Good (p_l.getD k3 d_FeedItem) then
        bif decide (0 < (k3 : Int)) then
          bif s_l23Ahead (p_l.getD ((IntKind.wrap .i64 ((k3 : Int) - 1)).toNat) d_FeedItem) (p_l.getD k3 d_FeedItem) then
            .cont ()
          else
            .ret false
        else
          .cont ()
      else
        .ret false
    else
      .brk ()
def s_l23Feed (p_l : List DFeedItem) : Bool :=
  loopE (loopM (B_s_l23Feed_0 p_l) (p_l.length - 0) 0 ()) (fun r => r) (fun _ =>
    decide ((p_l.length : Int) ≤ 400))
def B_s_l31Diff_0 (p_d : DDiff) (k9 : Nat) : Unit → Out Bool Unit
  | () => bif decide (((p_d.List.getD k9 d_FeedItem).Group) = 0) then
      bif s_l1In ((p_d.List.getD k9 d_FeedItem).Time) (IntKind.wrap .i64 (p_d.From + 1)) p_d.To then
        .cont ()
      else
        .ret false
    else
      .ret false
def s_l31Diff (p_d : DDiff) : Bool :=
  loopE (loopM (B_s_l31Diff_0 p_d) (p_d.List.length - 0) 0 ()) (fun r => r) (fun _ =>
    bif s_l1In p_d.From 0 p_d.To then
      bif decide (p_d.To ≤ 100000) then
        bif decide ((p_d.List.length : Int) ≤ 60) then
          (s_l23Feed p_d.List)
        else
          false
      else
        false
    else
      false)
def s_l31If (p_d : DDiff) : DDiff × Bool :=
  bif s_l31Diff p_d then
    (p_d, true)
  else
    ((⟨0, 0, []⟩ : DDiff), false)
def s_JoinDiffs (p_a : DDiff) (p_b : DDiff) : DDiff × Bool :=
  bif s_l31Diff p_a then
    bif s_l31Diff p_b then
      bif decide (p_a.To = p_b.From) then
        ((s_l31If (⟨p_a.From, p_b.To, ((([] : List DFeedItem) ++ p_a.List) ++ p_b.List)⟩ : DDiff)).1, (s_l31If (⟨p_a.From, p_b.To, ((([] : List DFeedItem) ++ p_a.List) ++ p_b.List)⟩ : DDiff)).2)
      else
        ((⟨0, 0, []⟩ : DDiff), false)
    else
      ((⟨0, 0, []⟩ : DDiff), false)
  else
    ((⟨0, 0, []⟩ : DDiff), false)
def l_toFeedItem (p_a : DFeedItem) : DFeedItem :=
  p_a
def B_l_toFeedItemS_0 (p_a : List DFeedItem) (k10 : Nat) : (List DFeedItem) → Out (List DFeedItem) (List DFeedItem)
  | (x21) => .cont ((x21.set k10 (p_a.getD k10 d_FeedItem)))
def l_toFeedItemS (p_a : List DFeedItem) : List DFeedItem :=
  loopE (loopM (B_l_toFeedItemS_0 p_a) (p_a.length - 0) 0 ((List.replicate p_a.length d_FeedItem))) (fun r => r) (fun x21 =>
    x21)
def l_toDiff (p_a : DDiff) : DDiff :=
  p_a
def i_within (p_n : Int) (p_low : Int) (p_high : Int) : Bool :=
  bif decide (p_low ≤ p_n) then
    decide (p_n ≤ p_high)
  else
    false
def i_isTrue (p_now : Int) : Bool :=
  (i_within p_now 0 100000)
def B_g_slices_IndexFunc_FeedItem_0 (p_s : List DFeedItem) (p_f : DFeedItem → Bool) (k7 : Nat) : Unit → Out Int Unit
  | () => bif p_f (p_s.getD k7 d_FeedItem) then
      .ret (k7 : Int)
    else
      .cont ()
def g_slices_IndexFunc_FeedItem (p_s : List DFeedItem) (p_f : DFeedItem → Bool) : Int :=
  loopE (loopM (B_g_slices_IndexFunc_FeedItem_0 p_s p_f) (p_s.length - 0) 0 ()) (fun r => r) (fun _ =>
    -1)
def g_slices_ContainsFunc_FeedItem (p_s : List DFeedItem) (p_f : DFeedItem → Bool) : Bool :=
  decide (0 ≤ (g_slices_IndexFunc_FeedItem p_s p_f))
def B_g_cmp_Or_int_0 (p_vals : List Int) (k3 : Nat) : Unit → Out Int Unit
  | () => bif decide ((p_vals.getD k3 d_Int) = 0) then
      .cont ()
    else
      .ret (p_vals.getD k3 d_Int)
def g_cmp_Or_int (p_vals : List Int) : Int :=
  loopE (loopM (B_g_cmp_Or_int_0 p_vals) (p_vals.length - 0) 0 ()) (fun r => r) (fun _ =>
    0)
def g_cmp_isNaN_int (p_x : Int) : Bool :=
  !(decide (p_x = p_x))
def g_cmp_Compare_int (p_x : Int) (p_y : Int) : Int :=
  bif g_cmp_isNaN_int p_x then
    bif g_cmp_isNaN_int p_y then
      0
    else
      -1
  else
    bif g_cmp_isNaN_int p_y then
      1
    else
      bif decide (p_x < p_y) then
        -1
      else
        bif decide (p_y < p_x) then
          1
        else
          0
def g_cmp_isNaN_string (p_x : Str) : Bool :=
  !(p_x == p_x)
def g_cmp_Compare_string (p_x : Str) (p_y : Str) : Int :=
  bif g_cmp_isNaN_string p_x then
    bif g_cmp_isNaN_string p_y then
      0
    else
      -1
  else
    bif g_cmp_isNaN_string p_y then
      1
    else
      bif sLt p_x p_y then
        -1
      else
        bif sLe p_x p_y then
          0
        else
          1
def i_compareItems (p_a : DFeedItem) (p_b : DFeedItem) : Int :=
  (g_cmp_Or_int ([(g_cmp_Compare_int p_a.Time p_b.Time), (g_cmp_Compare_int p_a.Group p_b.Group), (g_cmp_Compare_string p_a.Key p_b.Key)] : List Int))
def B_i_isFeed_0 (p_l : List DFeedItem) (k3 : Nat) : Unit → Out Bool Unit
  | () => bif decide (0 < (k3 : Int)) then
      bif decide (0 ≤ (i_compareItems (p_l.getD ((IntKind.wrap .i64 ((k3 : Int) - 1)).toNat) d_FeedItem) (p_l.getD k3 d_FeedItem))) then
        .ret false
      else
        .cont ()
    else
      .cont ()
def i_isFeed (p_l : List DFeedItem) : Bool :=
  loopE (loopM (B_i_isFeed_0 p_l) (p_l.length - 0) 0 ()) (fun r => r) (fun _ =>
    decide ((p_l.length : Int) ≤ 400))
def i_isLowerOrDigit (p_b : Int) : Bool :=
  bif decide (97 ≤ p_b) then
    bif decide (p_b ≤ 122) then
      true
    else
      bif decide (48 ≤ p_b) then
        decide (p_b ≤ 57)
      else
        false
  else
    bif decide (48 ≤ p_b) then
      decide (p_b ≤ 57)
    else
      false
def g_internal_stringslite_IndexByte (p_s : Str) (p_c : Int) : Int :=
  idxB p_s p_c
def g_strings_IndexByte (p_s : Str) (p_c : Int) : Int :=
  (g_internal_stringslite_IndexByte p_s p_c)
def B_i_hasBytes_0 (p_s : Str) (p_others : Str) (k3 : Nat) : Unit → Out Bool Unit
  | () => bif i_isLowerOrDigit ((p_s.getD k3 0).toNat : Int) then
      .cont ()
    else
      bif decide ((g_strings_IndexByte p_others ((p_s.getD k3 0).toNat : Int)) < 0) then
        .ret false
      else
        .cont ()
def i_hasBytes (p_s : Str) (p_others : Str) : Bool :=
  loopE (loopM (B_i_hasBytes_0 p_s p_others) (p_s.length - 0) 0 ()) (fun r => r) (fun _ =>
    true)
def i_GoodVal (p_s : Str) : Bool :=
  bif decide ((p_s.length : Int) ≤ 24) then
    (i_hasBytes p_s ([46, 45, 44, 95] : Str))
  else
    false
def i_isStored (p_val : Str) (p_gone : Bool) : Bool :=
  bif i_GoodVal p_val then
    bif p_gone then
      !(!(p_val == ([] : Str)))
    else
      !false
  else
    false
def i_isTime (p_t : Int) : Bool :=
  (i_within p_t 1 100000)
def i_GoodKey (p_s : Str) : Bool :=
  bif i_within (p_s.length : Int) 1 12 then
    (i_hasBytes p_s ([46, 47] : Str))
  else
    false
def i_isGroup (p_g : Int) : Bool :=
  (i_within p_g 0 3)
def i_GoodItem (p_c : DFeedItem) : Bool :=
  bif i_isTime p_c.Time then
    bif i_isGroup p_c.Group then
      bif i_GoodKey p_c.Key then
        (i_isStored p_c.Val p_c.Gone)
      else
        false
    else
      false
  else
    false
def i_GoodFeed_c1 (p_c : DFeedItem) : Bool :=
  !(i_GoodItem p_c)
def i_GoodFeed (p_l : List DFeedItem) : Bool :=
  bif i_isFeed p_l then
    !(g_slices_ContainsFunc_FeedItem p_l (fun y0 => i_GoodFeed_c1 y0))
  else
    false
def i_GoodDiff_c1 (p_c : DFeedItem) (p_cap0 : DDiff) : Bool :=
  bif decide (p_c.Group = 0) then
    bif decide (p_c.Time ≤ p_cap0.From) then
      true
    else
      decide (p_cap0.To < p_c.Time)
  else
    true
def i_GoodDiff (p_d : DDiff) : Bool :=
  bif i_isTrue p_d.From then
    bif i_isTrue p_d.To then
      bif decide (p_d.From ≤ p_d.To) then
        bif decide ((p_d.List.length : Int) ≤ 60) then
          bif i_GoodFeed p_d.List then
            !(g_slices_ContainsFunc_FeedItem p_d.List (fun y0 => i_GoodDiff_c1 y0 p_d))
          else
            false
        else
          false
      else
        false
    else
      false
  else
    false
def i_ifDiff (p_d : DDiff) : DDiff × Bool :=
  bif i_GoodDiff p_d then
    (p_d, true)
  else
    ((⟨0, 0, []⟩ : DDiff), false)
def g_slices_Grow_FeedItem (p_n : Int) : List DFeedItem := []
def B_g_slices_Concat_FeedItem_0 (p_slices : List (List DFeedItem)) (k3 : Nat) : Int → Out (List DFeedItem) Int
  | (x4) => .cont (IntKind.wrap .i64 (x4 + ((p_slices.getD k3 d_LFeedItem).length : Int)))
def B_g_slices_Concat_FeedItem_1 (p_slices : List (List DFeedItem)) (x4 : Int) (k13 : Nat) : (List DFeedItem) → Out (List DFeedItem) (List DFeedItem)
  | (x28) => .cont ((x28 ++ (p_slices.getD k13 d_LFeedItem)))
def g_slices_Concat_FeedItem (p_slices : List (List DFeedItem)) : List DFeedItem :=
  loopE (loopM (B_g_slices_Concat_FeedItem_0 p_slices) (p_slices.length - 0) 0 (0)) (fun r => r) (fun x4 =>
    loopE (loopM (B_g_slices_Concat_FeedItem_1 p_slices x4) (p_slices.length - 0) 0 ((g_slices_Grow_FeedItem x4))) (fun r => r) (fun x28 =>
      x28))
def i_JoinDiffs (p_a : DDiff) (p_b : DDiff) : DDiff × Bool :=
  bif i_GoodDiff p_a then
    bif i_GoodDiff p_b then
      bif decide (p_a.To = p_b.From) then
        ((i_ifDiff (⟨p_a.From, p_b.To, (g_slices_Concat_FeedItem ([p_a.List, p_b.List] : List (List DFeedItem)))⟩ : DDiff)).1, (i_ifDiff (⟨p_a.From, p_b.To, (g_slices_Concat_FeedItem ([p_a.List, p_b.List] : List (List DFeedItem)))⟩ : DDiff)).2)
      else
        ((⟨0, 0, []⟩ : DDiff), false)
    else
      ((⟨0, 0, []⟩ : DDiff), false)
  else
    ((⟨0, 0, []⟩ : DDiff), false)
def l_eqFeedItem (p_a : DFeedItem) (p_b : DFeedItem) : Bool :=
  bif decide (p_a.Time = p_b.Time) then
    bif decide (p_a.Group = p_b.Group) then
      bif p_a.Key == p_b.Key then
        bif p_a.Val == p_b.Val then
          bif p_a.Gone == p_b.Gone then
            true
          else
            false
        else
          false
      else
        false
    else
      false
  else
    false
def B_l_eqFeedItemS_0 (p_a : List DFeedItem) (p_b : List DFeedItem) (k4 : Nat) : Unit → Out Bool Unit
  | () => bif l_eqFeedItem (p_a.getD k4 d_FeedItem) (p_b.getD k4 d_FeedItem) then
      .cont ()
    else
      .ret false
def l_eqFeedItemS (p_a : List DFeedItem) (p_b : List DFeedItem) : Bool :=
  bif decide ((p_a.length : Int) = (p_b.length : Int)) then
    loopE (loopM (B_l_eqFeedItemS_0 p_a p_b) (p_a.length - 0) 0 ()) (fun r => r) (fun _ =>
      true)
  else
    false
def l_eqDiff (p_a : DDiff) (p_b : DDiff) : Bool :=
  bif decide (p_a.From = p_b.From) then
    bif decide (p_a.To = p_b.To) then
      bif l_eqFeedItemS p_a.List p_b.List then
        true
      else
        false
    else
      false
  else
    false
def B_l_markText_0 (p_k : Int) : Int × Str → Out Str (Int × Str)
  | (x15, x16) => bif decide (0 < x15) then
      .cont (IntKind.wrap .i64 (Int.tdiv x15 10), (toS ([IntKind.wrap .u8 (IntKind.wrap .i64 (48 + (Int.tmod x15 10)))] : List Int)) ++ x16)
    else
      .brk (x15, x16)
def l_markText (p_k : Int) : Str :=
  bif decide (p_k ≤ 0) then
    ([109, 48] : Str)
  else
    loopE (loopW (B_l_markText_0 p_k) ((((p_k).toNat + 1) / 2) + 1) (p_k, ([] : Str))) (fun r => r) (fun (x15, x16) =>
      ([109] : Str) ++ x16)
def B_l_markFeedItemS_0 (p_a : List DFeedItem) (p_k : Int) (k3 : Nat) : Int × (List DFeedItem) → Out (Int × (List DFeedItem)) (Int × (List DFeedItem))
  | (x41, x42) => .cont (IntKind.wrap .i64 ((IntKind.wrap .i64 ((IntKind.wrap .i64 ((IntKind.wrap .i64 ((IntKind.wrap .i64 (x41 + 1)) + 1)) + 1)) + 1)) + 1), (x42.set k3 (⟨x41, IntKind.wrap .i64 (x41 + 1), (l_markText (IntKind.wrap .i64 ((IntKind.wrap .i64 (x41 + 1)) + 1))), (l_markText (IntKind.wrap .i64 ((IntKind.wrap .i64 ((IntKind.wrap .i64 (x41 + 1)) + 1)) + 1))), decide ((Int.tmod (IntKind.wrap .i64 ((IntKind.wrap .i64 ((IntKind.wrap .i64 ((IntKind.wrap .i64 (x41 + 1)) + 1)) + 1)) + 1)) 3) = 0)⟩ : DFeedItem)))
def l_markFeedItemS (p_a : List DFeedItem) (p_k : Int) : Int × (List DFeedItem) :=
  loopE (loopM (B_l_markFeedItemS_0 p_a p_k) (p_a.length - 0) 0 (p_k, p_a)) (fun r => r) (fun (x41, x42) =>
    (x41, x42))
def l_markDiff (p_a : DDiff) (p_k : Int) : Int × DDiff :=
  ((l_markFeedItemS p_a.List p_k).1, (⟨p_a.From, p_a.To, (l_markFeedItemS p_a.List p_k).2⟩ : DDiff))
def B_l_heldFeedItemS_0 (p_a : List DFeedItem) (p_k : Int) (k2 : Nat) : Int → Out Int Int
  | (x3) => bif decide (((p_a.getD k2 d_FeedItem).Time) = x3) then
      bif decide (((p_a.getD k2 d_FeedItem).Group) = (IntKind.wrap .i64 (x3 + 1))) then
        bif ((p_a.getD k2 d_FeedItem).Key) == (l_markText (IntKind.wrap .i64 ((IntKind.wrap .i64 (x3 + 1)) + 1))) then
          bif ((p_a.getD k2 d_FeedItem).Val) == (l_markText (IntKind.wrap .i64 ((IntKind.wrap .i64 ((IntKind.wrap .i64 (x3 + 1)) + 1)) + 1))) then
            bif ((p_a.getD k2 d_FeedItem).Gone) == (decide ((Int.tmod (IntKind.wrap .i64 ((IntKind.wrap .i64 ((IntKind.wrap .i64 ((IntKind.wrap .i64 (x3 + 1)) + 1)) + 1)) + 1)) 3) = 0)) then
              .cont (IntKind.wrap .i64 ((IntKind.wrap .i64 ((IntKind.wrap .i64 ((IntKind.wrap .i64 ((IntKind.wrap .i64 (x3 + 1)) + 1)) + 1)) + 1)) + 1))
            else
              .ret (-1)
          else
            .ret (-1)
        else
          .ret (-1)
      else
        .ret (-1)
    else
      .ret (-1)
def l_heldFeedItemS (p_a : List DFeedItem) (p_k : Int) : Int :=
  loopE (loopM (B_l_heldFeedItemS_0 p_a p_k) (p_a.length - 0) 0 (p_k)) (fun r => r) (fun x3 =>
    x3)
def l_heldDiff (p_a : DDiff) (p_k : Int) : Int :=
  bif decide ((l_heldFeedItemS p_a.List p_k) < 0) then
    -1
  else
    (l_heldFeedItemS p_a.List p_k)
def l_FnExactJoinDiffs (p_0 : DDiff) (p_1 : DDiff) : Bool :=
  bif decide ((l_szDiff p_0 1048576) < 0) then
    true
  else
    bif decide ((l_szDiff p_1 (l_szDiff p_0 1048576)) < 0) then
      true
    else
      bif l_eqDiff ((i_JoinDiffs p_0 p_1).1) ((s_JoinDiffs p_0 p_1).1) then
        bif ((i_JoinDiffs p_0 p_1).2) == ((s_JoinDiffs p_0 p_1).2) then
          bif l_eqDiff p_0 p_0 then
            bif l_eqDiff p_1 p_1 then
              bif decide (((l_markDiff p_1 ((l_markDiff p_0 1).1)).1) < 0) then
                false
              else
                bif decide ((l_heldDiff (⟨(i_JoinDiffs p_0 p_1).1.From, (i_JoinDiffs p_0 p_1).1.To, (l_markDiff ((i_JoinDiffs p_0 p_1).1) 1).2.List⟩ : DDiff) 1) < 0) then
                  false
                else
                  bif decide ((l_heldDiff (⟨(i_JoinDiffs p_0 p_1).1.From, (i_JoinDiffs p_0 p_1).1.To, (l_markDiff ((i_JoinDiffs p_0 p_1).1) 1).2.List⟩ : DDiff) 1) = ((l_markDiff ((i_JoinDiffs p_0 p_1).1) 1).1)) then
                    true
                  else
                    false
            else
              false
          else
            false
        else
          false
      else
        false
def s_GoodDiff (p_d : DDiff) : Bool :=
  (s_l31Diff p_d)
end Go.Proofs.Ytdbobbmagmcpnaa
