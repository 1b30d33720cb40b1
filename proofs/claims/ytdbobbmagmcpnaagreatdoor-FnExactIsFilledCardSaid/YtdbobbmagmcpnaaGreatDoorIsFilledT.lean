/- Is Filled: the plain forms of the values, and plain models of the functions. -/
import Derived.Test.YtdbobbmagmcpnaaGreatDoorE18
set_option linter.unusedVariables false
set_option linter.unusedSimpArgs false
namespace Go.Proofs.YtdbobbmagmcpnaaGreatDoor
open Go.RowKit Go.X
structure DWrite where
  Key : Str
  Val : Str
  Gone : Bool
def d_Write : DWrite := ⟨[], [], false⟩
def wf_Write (x : DWrite) : Prop := wfS x.Key ∧ wfS x.Val
def ok_Write (x : DWrite) : Prop := okS x.Key ∧ okS x.Val
theorem ok_d_Write : ok_Write d_Write := ⟨ok_d_Str, ok_d_Str⟩
def e_Write (x : DWrite) : List Value := [.string (bs x.Key), .string (bs x.Val), .bool x.Gone]
theorem good_Write : Gd (RF e_Write) := RF.good fun _ => rfl
structure DIdx where
  Name : Str
  Col : Int
  Stage : Int
def d_Idx : DIdx := ⟨[], 0, 0⟩
def wf_Idx (x : DIdx) : Prop := wfS x.Name ∧ wfI x.Col ∧ wfI x.Stage
def ok_Idx (x : DIdx) : Prop := okS x.Name
theorem ok_d_Idx : ok_Idx d_Idx := ok_d_Str
def e_Idx (x : DIdx) : List Value := [.string (bs x.Name), .int .i64 x.Col, .int .i64 x.Stage]
theorem good_Idx : Gd (RF e_Idx) := RF.good fun _ => rfl
structure DTable where
  Name : Str
  Cols : List Str
  Idxs : List DIdx
def d_Table : DTable := ⟨[], [], []⟩
def wf_Table (x : DTable) : Prop := wfS x.Name ∧ (wfL wfS) x.Cols ∧ (wfL wf_Idx) x.Idxs
def ok_Table (x : DTable) : Prop := okS x.Name ∧ (okL okS) x.Cols ∧ (okL ok_Idx) x.Idxs
theorem ok_d_Table : ok_Table d_Table := ⟨ok_d_Str, okL.nil _, okL.nil _⟩
def R_Table : Rel DTable := fun w S cs x => ∃ A1 c1 A2 c2, cs = [.string (bs x.Name), .slice A1 x.Cols.length c1, .slice A2 x.Idxs.length c2] ∧ RdS w S (RF e_Str) 1 A1 x.Cols.length c1 x.Cols ∧ RdS w S (RF e_Idx) 3 A2 x.Idxs.length c2 x.Idxs
def RO_Table : RelO DTable := fun w l h cs x => ∃ A1 c1 lo1 hi1 A2 c2 lo2 hi2, cs = [.string (bs x.Name), .slice A1 x.Cols.length c1, .slice A2 x.Idxs.length c2] ∧ OwnL w lo1 hi1 9 1 (RF e_Str) A1 x.Cols.length c1 x.Cols ∧ OwnL w lo2 hi2 104 3 (RF e_Idx) A2 x.Idxs.length c2 x.Idxs ∧ (l ≤ lo1 ∧ lo1 ≤ hi1 ∧ hi1 ≤ h) ∧ (l ≤ lo2 ∧ lo2 ≤ hi2 ∧ hi2 ≤ h) ∧ (hi1 ≤ lo2 ∨ hi2 ≤ lo1)
theorem good_Table : Gd R_Table := ⟨fun ⟨A1, c1, A2, c2, he, h0, h1⟩ hk => ⟨A1, c1, A2, c2, he, RdS.keep good_Str h0 hk, RdS.keep good_Idx h1 hk⟩, fun ⟨A1, c1, A2, c2, he, h0, h1⟩ hw => ⟨A1, c1, A2, c2, he, RdS.wide good_Str h0 hw, RdS.wide good_Idx h1 hw⟩, fun ⟨A1, c1, A2, c2, he, h0, h1⟩ => by rw [he]; rfl⟩
theorem goodO_Table : GdO RO_Table R_Table := ⟨fun ⟨A1, c1, lo1, hi1, A2, c2, lo2, hi2, he, h1, h2, r0, r1, r2⟩ hk => ⟨A1, c1, lo1, hi1, A2, c2, lo2, hi2, he, OwnL.keep good_Str h1 (fun b b1 b2 b3 => hk b (by omega) (by omega) b3), OwnL.keep good_Idx h2 (fun b b1 b2 b3 => hk b (by omega) (by omega) b3), r0, r1, r2⟩, fun ⟨A1, c1, lo1, hi1, A2, c2, lo2, hi2, he, h1, h2, r0, r1, r2⟩ => by rw [he]; rfl, fun ⟨A1, c1, lo1, hi1, A2, c2, lo2, hi2, he, h1, h2, r0, r1, r2⟩ => ⟨A1, c1, A2, c2, he, RdS.wide good_Str (OwnL.rdI good_Str h1) (fun b hb _ => ⟨by have := hb.1; omega, by have := hb.2; omega⟩), RdS.wide good_Idx (OwnL.rdI good_Idx h2) (fun b hb _ => ⟨by have := hb.1; omega, by have := hb.2; omega⟩)⟩⟩
theorem mkO_Table {w : World} {l h : Nat} {z0 : Str} {lo1 hi1 n1 c1 : Nat} {A1 : Option Addr} {y1 : List Str} {lo2 hi2 n2 c2 : Nat} {A2 : Option Addr} {y2 : List DIdx} (h1 : OwnL w lo1 hi1 9 1 (RF e_Str) A1 n1 c1 y1) (h2 : OwnL w lo2 hi2 104 3 (RF e_Idx) A2 n2 c2 y2) (r0 : (l ≤ lo1 ∧ lo1 ≤ hi1 ∧ hi1 ≤ h)) (r1 : (l ≤ lo2 ∧ lo2 ≤ hi2 ∧ hi2 ≤ h)) (r2 : (hi1 ≤ lo2 ∨ hi2 ≤ lo1)) : RO_Table w l h [.string (bs z0), .slice A1 n1 c1, .slice A2 n2 c2] ⟨z0, y1, y2⟩ := by
  obtain rfl := h1.1; obtain rfl := h2.1
  exact ⟨A1, c1, lo1, hi1, A2, c2, lo2, hi2, rfl, h1, h2, r0, r1, r2⟩
structure DShift where
  Name : Str
  Ways : List DTable
  At : List Int
  Store : List DWrite
def d_Shift : DShift := ⟨[], [], [], []⟩
def wf_Shift (x : DShift) : Prop := wfS x.Name ∧ (wfL wf_Table) x.Ways ∧ (wfL wfI) x.At ∧ (wfL wf_Write) x.Store
def ok_Shift (x : DShift) : Prop := okS x.Name ∧ (okL ok_Table) x.Ways ∧ (okL okT) x.At ∧ (okL ok_Write) x.Store
theorem ok_d_Shift : ok_Shift d_Shift := ⟨ok_d_Str, okL.nil _, okL.nil _, okL.nil _⟩
def R_Shift : Rel DShift := fun w S cs x => ∃ A1 c1 A2 c2 A3 c3, cs = [.string (bs x.Name), .slice A1 x.Ways.length c1, .slice A2 x.At.length c2, .slice A3 x.Store.length c3] ∧ RdS w S R_Table 3 A1 x.Ways.length c1 x.Ways ∧ RdS w S (RF e_Int) 1 A2 x.At.length c2 x.At ∧ RdS w S (RF e_Write) 3 A3 x.Store.length c3 x.Store
theorem good_Shift : Gd R_Shift := ⟨fun ⟨A1, c1, A2, c2, A3, c3, he, h0, h1, h2⟩ hk => ⟨A1, c1, A2, c2, A3, c3, he, RdS.keep good_Table h0 hk, RdS.keep good_Int h1 hk, RdS.keep good_Write h2 hk⟩, fun ⟨A1, c1, A2, c2, A3, c3, he, h0, h1, h2⟩ hw => ⟨A1, c1, A2, c2, A3, c3, he, RdS.wide good_Table h0 hw, RdS.wide good_Int h1 hw, RdS.wide good_Write h2 hw⟩, fun ⟨A1, c1, A2, c2, A3, c3, he, h0, h1, h2⟩ => by rw [he]; rfl⟩
structure DFill where
  Last : Str
  Over : Bool
def d_Fill : DFill := ⟨[], false⟩
def wf_Fill (x : DFill) : Prop := wfS x.Last
def ok_Fill (x : DFill) : Prop := okS x.Last
theorem ok_d_Fill : ok_Fill d_Fill := ok_d_Str
def e_Fill (x : DFill) : List Value := [.string (bs x.Last), .bool x.Over]
theorem good_Fill : Gd (RF e_Fill) := RF.good fun _ => rfl
structure DWork where
  Shift : DShift
  Up : DFill
  Down : DFill
def d_Work : DWork := ⟨d_Shift, d_Fill, d_Fill⟩
def wf_Work (x : DWork) : Prop := wf_Shift x.Shift ∧ wf_Fill x.Up ∧ wf_Fill x.Down
def ok_Work (x : DWork) : Prop := ok_Shift x.Shift ∧ ok_Fill x.Up ∧ ok_Fill x.Down
theorem ok_d_Work : ok_Work d_Work := ⟨ok_d_Shift, ok_d_Fill, ok_d_Fill⟩
def R_Work : Rel DWork := fun w S cs x => ∃ A1 c1 A2 c2 A3 c3, cs = [.string (bs x.Shift.Name), .slice A1 x.Shift.Ways.length c1, .slice A2 x.Shift.At.length c2, .slice A3 x.Shift.Store.length c3, .string (bs x.Up.Last), .bool x.Up.Over, .string (bs x.Down.Last), .bool x.Down.Over] ∧ RdS w S R_Table 3 A1 x.Shift.Ways.length c1 x.Shift.Ways ∧ RdS w S (RF e_Int) 1 A2 x.Shift.At.length c2 x.Shift.At ∧ RdS w S (RF e_Write) 3 A3 x.Shift.Store.length c3 x.Shift.Store
theorem good_Work : Gd R_Work := ⟨fun ⟨A1, c1, A2, c2, A3, c3, he, h0, h1, h2⟩ hk => ⟨A1, c1, A2, c2, A3, c3, he, RdS.keep good_Table h0 hk, RdS.keep good_Int h1 hk, RdS.keep good_Write h2 hk⟩, fun ⟨A1, c1, A2, c2, A3, c3, he, h0, h1, h2⟩ hw => ⟨A1, c1, A2, c2, A3, c3, he, RdS.wide good_Table h0 hw, RdS.wide good_Int h1 hw, RdS.wide good_Write h2 hw⟩, fun ⟨A1, c1, A2, c2, A3, c3, he, h0, h1, h2⟩ => by rw [he]; rfl⟩
structure DRow where
  Vals : List Str
def d_Row : DRow := ⟨[]⟩
def wf_Row (x : DRow) : Prop := (wfL wfS) x.Vals
def ok_Row (x : DRow) : Prop := (okL okS) x.Vals
theorem ok_d_Row : ok_Row d_Row := okL.nil _
def R_Row : Rel DRow := fun w S cs x => ∃ A1 c1, cs = [.slice A1 x.Vals.length c1] ∧ RdS w S (RF e_Str) 1 A1 x.Vals.length c1 x.Vals
def RO_Row : RelO DRow := fun w l h cs x => ∃ A1 c1 lo1 hi1, cs = [.slice A1 x.Vals.length c1] ∧ OwnL w lo1 hi1 9 1 (RF e_Str) A1 x.Vals.length c1 x.Vals ∧ (l ≤ lo1 ∧ lo1 ≤ hi1 ∧ hi1 ≤ h)
theorem good_Row : Gd R_Row := ⟨fun ⟨A1, c1, he, h0⟩ hk => ⟨A1, c1, he, RdS.keep good_Str h0 hk⟩, fun ⟨A1, c1, he, h0⟩ hw => ⟨A1, c1, he, RdS.wide good_Str h0 hw⟩, fun ⟨A1, c1, he, h0⟩ => by rw [he]; rfl⟩
theorem goodO_Row : GdO RO_Row R_Row := ⟨fun ⟨A1, c1, lo1, hi1, he, h1, r0⟩ hk => ⟨A1, c1, lo1, hi1, he, OwnL.keep good_Str h1 (fun b b1 b2 b3 => hk b (by omega) (by omega) b3), r0⟩, fun ⟨A1, c1, lo1, hi1, he, h1, r0⟩ => by rw [he]; rfl, fun ⟨A1, c1, lo1, hi1, he, h1, r0⟩ => ⟨A1, c1, he, RdS.wide good_Str (OwnL.rdI good_Str h1) (fun b hb _ => ⟨by have := hb.1; omega, by have := hb.2; omega⟩)⟩⟩
theorem mkO_Row {w : World} {l h : Nat} {lo1 hi1 n1 c1 : Nat} {A1 : Option Addr} {y1 : List Str} (h1 : OwnL w lo1 hi1 9 1 (RF e_Str) A1 n1 c1 y1) (r0 : (l ≤ lo1 ∧ lo1 ≤ hi1 ∧ hi1 ≤ h)) : RO_Row w l h [.slice A1 n1 c1] ⟨y1⟩ := by
  obtain rfl := h1.1
  exact ⟨A1, c1, lo1, hi1, rfl, h1, r0⟩
structure DBoundsError where
  x : Int
  y : Int
  signed : Bool
  code : Int
def d_BoundsError : DBoundsError := ⟨0, 0, false, 0⟩
def wf_BoundsError (x : DBoundsError) : Prop := wfI x.x ∧ wfI x.y ∧ wfI x.code
def e_BoundsError (x : DBoundsError) : List Value := [.int .i64 x.x, .int .i64 x.y, .bool x.signed, .int .u8 x.code]
theorem good_BoundsError : Gd (RF e_BoundsError) := RF.good fun _ => rfl
structure DErrorAddressString where
  msg : Str
  addr : Int
def d_ErrorAddressString : DErrorAddressString := ⟨[], 0⟩
def wf_ErrorAddressString (x : DErrorAddressString) : Prop := wfS x.msg ∧ wfI x.addr
def ok_ErrorAddressString (x : DErrorAddressString) : Prop := okS x.msg
theorem ok_d_ErrorAddressString : ok_ErrorAddressString d_ErrorAddressString := ok_d_Str
def e_ErrorAddressString (x : DErrorAddressString) : List Value := [.string (bs x.msg), .int .u64 x.addr]
theorem good_ErrorAddressString : Gd (RF e_ErrorAddressString) := RF.good fun _ => rfl
structure DAcceptRange where
  lo : Int
  hi : Int
def d_AcceptRange : DAcceptRange := ⟨0, 0⟩
def wf_AcceptRange (x : DAcceptRange) : Prop := wfI x.lo ∧ wfI x.hi
def e_AcceptRange (x : DAcceptRange) : List Value := [.int .u8 x.lo, .int .u8 x.hi]
theorem good_AcceptRange : Gd (RF e_AcceptRange) := RF.good fun _ => rfl
def l_szWrite (p_a : DWrite) (p_left : Int) : Int :=
  bif decide ((IntKind.wrap .i64 (p_left - (p_a.Key.length : Int))) < 0) then
    -1
  else
    bif decide ((IntKind.wrap .i64 ((IntKind.wrap .i64 (p_left - (p_a.Key.length : Int))) - (p_a.Val.length : Int))) < 0) then
      -1
    else
      IntKind.wrap .i64 ((IntKind.wrap .i64 (p_left - (p_a.Key.length : Int))) - (p_a.Val.length : Int))
def B_l_szWriteS_0 (p_a : List DWrite) (p_left : Int) (k3 : Nat) : Int → Out Int Int
  | (x4) => bif decide ((l_szWrite (p_a.getD k3 d_Write) x4) < 0) then
      .ret (-1)
    else
      .cont ((l_szWrite (p_a.getD k3 d_Write) x4))
def l_szWriteS (p_a : List DWrite) (p_left : Int) : Int :=
  bif decide ((IntKind.wrap .i64 (p_left - (p_a.length : Int))) < 0) then
    -1
  else
    loopE (loopM (B_l_szWriteS_0 p_a p_left) (p_a.length - 0) 0 (IntKind.wrap .i64 (p_left - (p_a.length : Int)))) (fun r => r) (fun x4 =>
      x4)
def B_l_szStringS_0 (p_a : List Str) (p_left : Int) (k3 : Nat) : Int → Out Int Int
  | (x4) => bif decide ((IntKind.wrap .i64 (x4 - ((p_a.getD k3 d_Str).length : Int))) < 0) then
      .ret (-1)
    else
      .cont (IntKind.wrap .i64 (x4 - ((p_a.getD k3 d_Str).length : Int)))
def l_szStringS (p_a : List Str) (p_left : Int) : Int :=
  bif decide ((IntKind.wrap .i64 (p_left - (p_a.length : Int))) < 0) then
    -1
  else
    loopE (loopM (B_l_szStringS_0 p_a p_left) (p_a.length - 0) 0 (IntKind.wrap .i64 (p_left - (p_a.length : Int)))) (fun r => r) (fun x4 =>
      x4)
def l_szIdx (p_a : DIdx) (p_left : Int) : Int :=
  bif decide ((IntKind.wrap .i64 (p_left - (p_a.Name.length : Int))) < 0) then
    -1
  else
    IntKind.wrap .i64 (p_left - (p_a.Name.length : Int))
def B_l_szIdxS_0 (p_a : List DIdx) (p_left : Int) (k3 : Nat) : Int → Out Int Int
  | (x4) => bif decide ((l_szIdx (p_a.getD k3 d_Idx) x4) < 0) then
      .ret (-1)
    else
      .cont ((l_szIdx (p_a.getD k3 d_Idx) x4))
def l_szIdxS (p_a : List DIdx) (p_left : Int) : Int :=
  bif decide ((IntKind.wrap .i64 (p_left - (p_a.length : Int))) < 0) then
    -1
  else
    loopE (loopM (B_l_szIdxS_0 p_a p_left) (p_a.length - 0) 0 (IntKind.wrap .i64 (p_left - (p_a.length : Int)))) (fun r => r) (fun x4 =>
      x4)
def l_szTable (p_a : DTable) (p_left : Int) : Int :=
  bif decide ((IntKind.wrap .i64 (p_left - (p_a.Name.length : Int))) < 0) then
    -1
  else
    bif decide ((l_szStringS p_a.Cols (IntKind.wrap .i64 (p_left - (p_a.Name.length : Int)))) < 0) then
      -1
    else
      bif decide ((l_szIdxS p_a.Idxs (l_szStringS p_a.Cols (IntKind.wrap .i64 (p_left - (p_a.Name.length : Int))))) < 0) then
        -1
      else
        (l_szIdxS p_a.Idxs (l_szStringS p_a.Cols (IntKind.wrap .i64 (p_left - (p_a.Name.length : Int)))))
def B_l_szTableS_0 (p_a : List DTable) (p_left : Int) (k3 : Nat) : Int → Out Int Int
  | (x4) => bif decide ((l_szTable (p_a.getD k3 d_Table) x4) < 0) then
      .ret (-1)
    else
      .cont ((l_szTable (p_a.getD k3 d_Table) x4))
def l_szTableS (p_a : List DTable) (p_left : Int) : Int :=
  bif decide ((IntKind.wrap .i64 (p_left - (p_a.length : Int))) < 0) then
    -1
  else
    loopE (loopM (B_l_szTableS_0 p_a p_left) (p_a.length - 0) 0 (IntKind.wrap .i64 (p_left - (p_a.length : Int)))) (fun r => r) (fun x4 =>
      x4)
def l_szIntS (p_a : List Int) (p_left : Int) : Int :=
  bif decide ((IntKind.wrap .i64 (p_left - (p_a.length : Int))) < 0) then
    -1
  else
    IntKind.wrap .i64 (p_left - (p_a.length : Int))
def l_szShift (p_a : DShift) (p_left : Int) : Int :=
  bif decide ((IntKind.wrap .i64 (p_left - (p_a.Name.length : Int))) < 0) then
    -1
  else
    bif decide ((l_szTableS p_a.Ways (IntKind.wrap .i64 (p_left - (p_a.Name.length : Int)))) < 0) then
      -1
    else
      bif decide ((l_szIntS p_a.At (l_szTableS p_a.Ways (IntKind.wrap .i64 (p_left - (p_a.Name.length : Int))))) < 0) then
        -1
      else
        bif decide ((l_szWriteS p_a.Store (l_szIntS p_a.At (l_szTableS p_a.Ways (IntKind.wrap .i64 (p_left - (p_a.Name.length : Int)))))) < 0) then
          -1
        else
          (l_szWriteS p_a.Store (l_szIntS p_a.At (l_szTableS p_a.Ways (IntKind.wrap .i64 (p_left - (p_a.Name.length : Int))))))
def l_szFill (p_a : DFill) (p_left : Int) : Int :=
  bif decide ((IntKind.wrap .i64 (p_left - (p_a.Last.length : Int))) < 0) then
    -1
  else
    IntKind.wrap .i64 (p_left - (p_a.Last.length : Int))
def l_szWork (p_a : DWork) (p_left : Int) : Int :=
  bif decide ((l_szShift p_a.Shift p_left) < 0) then
    -1
  else
    bif decide ((l_szFill p_a.Up (l_szShift p_a.Shift p_left)) < 0) then
      -1
    else
      bif decide ((l_szFill p_a.Down (l_szFill p_a.Up (l_szShift p_a.Shift p_left))) < 0) then
        -1
      else
        (l_szFill p_a.Down (l_szFill p_a.Up (l_szShift p_a.Shift p_left)))
def s_l1In (p_n : Int) (p_lo : Int) (p_hi : Int) : Bool :=
  bif decide (p_lo ≤ p_n) then
    decide (p_n ≤ p_hi)
  else
    false
def B_s_l3Bytes_1 (p_s : Str) (p_more : Str) (k3 : Nat) (k6 : Nat) : Bool → Out Bool Bool
  | (x7) => bif x7 then
      .cont (true)
    else
      .cont (decide (((p_s.getD k3 0).toNat : Int) = ((p_more.getD k6 0).toNat : Int)))
def B_s_l3Bytes_0 (p_s : Str) (p_more : Str) (k3 : Nat) : Unit → Out Bool Unit
  | () => bif decide (97 ≤ ((p_s.getD k3 0).toNat : Int)) then
      bif decide (((p_s.getD k3 0).toNat : Int) ≤ 122) then
        loopE (loopM (B_s_l3Bytes_1 p_s p_more k3) (p_more.length - 0) 0 (true)) (fun r => Out.ret r) (fun x7 =>
          bif x7 then
            .cont ()
          else
            .ret false)
      else
        bif decide (48 ≤ ((p_s.getD k3 0).toNat : Int)) then
          loopE (loopM (B_s_l3Bytes_1 p_s p_more k3) (p_more.length - 0) 0 (decide (((p_s.getD k3 0).toNat : Int) ≤ 57))) (fun r => Out.ret r) (fun x12 =>
            bif x12 then
              .cont ()
            else
              .ret false)
        else
          loopE (loopM (B_s_l3Bytes_1 p_s p_more k3) (p_more.length - 0) 0 (false)) (fun r => Out.ret r) (fun x15 =>
            bif x15 then
              .cont ()
            else
              .ret false)
    else
      bif decide (48 ≤ ((p_s.getD k3 0).toNat : Int)) then
        loopE (loopM (B_s_l3Bytes_1 p_s p_more k3) (p_more.length - 0) 0 (decide (((p_s.getD k3 0).toNat : Int) ≤ 57))) (fun r => Out.ret r) (fun x19 =>
          bif x19 then
            .cont ()
          else
            .ret false)
      else
        loopE (loopM (B_s_l3Bytes_1 p_s p_more k3) (p_more.length - 0) 0 (false)) (fun r => Out.ret r) (fun x22 =>
          bif x22 then
            .cont ()
          else
            .ret false)
def s_l3Bytes (p_s : Str) (p_more : Str) : Bool :=
  loopE (loopM (B_s_l3Bytes_0 p_s p_more) (p_s.length - 0) 0 ()) (fun r => r) (fun _ =>
    true)
def s_l3Key (p_s : Str) : Bool :=
  bif s_l1In (p_s.length : Int) 1 12 then
    (s_l3Bytes p_s ([46, 47] : Str))
  else
    false
def s_l3Val (p_s : Str) : Bool :=
  bif decide ((p_s.length : Int) ≤ 24) then
    (s_l3Bytes p_s ([46, 45, 44, 95] : Str))
  else
    false
def s_l3Write (p_key : Str) (p_val : Str) (p_gone : Bool) : Bool :=
  bif s_l3Key p_key then
    bif s_l3Val p_val then
      bif p_gone then
        p_val == ([] : Str)
      else
        true
    else
      false
  else
    false
def B_s_l3Writes_0 (p_l : List DWrite) (k3 : Nat) : Unit → Out Bool Unit
  | () => bif s_l3Write ((p_l.getD k3 d_Write).Key) ((p_l.getD k3 d_Write).Val) ((p_l.getD k3 d_Write).Gone) then
      bif decide (0 < (k3 : Int)) then
        bif sLt ((p_l.getD ((IntKind.wrap .i64 ((k3 : Int) - 1)).toNat) d_Write).Key) ((p_l.getD k3 d_Write).Key) then
          .cont ()
        else
          .ret false
      else
        .cont ()
    else
      .ret false
def s_l3Writes (p_l : List DWrite) : Bool :=
  loopE (loopM (B_s_l3Writes_0 p_l) (p_l.length - 0) 0 ()) (fun r => r) (fun _ =>
    decide ((p_l.length : Int) ≤ 24))
def B_s_l5Rows_0 (p_l : List DWrite) (k3 : Nat) : Unit → Out Bool Unit
  | () => bif (p_l.getD k3 d_Write).Gone then
      .ret false
    else
      .cont ()
def s_l5Rows (p_l : List DWrite) : Bool :=
  loopE (loopM (B_s_l5Rows_0 p_l) (p_l.length - 0) 0 ()) (fun r => r) (fun _ =>
    (s_l3Writes p_l))
def B_s_l24Letters_0 (p_s : Str) (p_most : Int) (k2 : Nat) : Unit → Out Bool Unit
  | () => bif decide (((p_s.getD k2 0).toNat : Int) < 97) then
      .ret false
    else
      bif decide (122 < ((p_s.getD k2 0).toNat : Int)) then
        .ret false
      else
        .cont ()
def s_l24Letters (p_s : Str) (p_most : Int) : Bool :=
  loopE (loopM (B_s_l24Letters_0 p_s p_most) (p_s.length - 0) 0 ()) (fun r => r) (fun _ =>
    bif decide (1 ≤ (p_s.length : Int)) then
      decide ((p_s.length : Int) ≤ p_most)
    else
      false)
def B_s_l24At_0 (p_l : List Str) (p_s : Str) (k4 : Nat) : Unit → Out Int Unit
  | () => bif (p_l.getD k4 d_Str) == p_s then
      .ret (k4 : Int)
    else
      .cont ()
def s_l24At (p_l : List Str) (p_s : Str) : Int :=
  loopE (loopM (B_s_l24At_0 p_l p_s) (p_l.length - 0) 0 ()) (fun r => r) (fun _ =>
    -1)
def B_s_l24Cols_0 (p_l : List Str) (k3 : Nat) : Unit → Out Bool Unit
  | () => bif s_l24Letters (p_l.getD k3 d_Str) 3 then
      bif decide (0 ≤ (s_l24At (p_l.take k3) (p_l.getD k3 d_Str))) then
        .ret false
      else
        .cont ()
    else
      .ret false
def s_l24Cols (p_l : List Str) : Bool :=
  loopE (loopM (B_s_l24Cols_0 p_l) (p_l.length - 0) 0 ()) (fun r => r) (fun _ =>
    (s_l1In (p_l.length : Int) 2 4))
def B_s_GoodTable_0 (p_0 : DTable) (k19 : Nat) : Unit → Out Bool Unit
  | () => bif s_l24Letters ((p_0.Idxs.getD k19 d_Idx).Name) 1 then
      bif s_l1In ((p_0.Idxs.getD k19 d_Idx).Col) 1 (IntKind.wrap .i64 ((p_0.Cols.length : Int) - 1)) then
        bif s_l1In ((p_0.Idxs.getD k19 d_Idx).Stage) 0 3 then
          bif decide (0 < (k19 : Int)) then
            bif sLt ((p_0.Idxs.getD ((IntKind.wrap .i64 ((k19 : Int) - 1)).toNat) d_Idx).Name) ((p_0.Idxs.getD k19 d_Idx).Name) then
              .cont ()
            else
              .ret false
          else
            .cont ()
        else
          .ret false
      else
        .ret false
    else
      .ret false
def s_GoodTable (p_0 : DTable) : Bool :=
  bif s_l24Letters p_0.Name 1 then
    bif s_l24Cols p_0.Cols then
      bif decide (3 < (p_0.Idxs.length : Int)) then
        false
      else
        loopE (loopM (B_s_GoodTable_0 p_0) (p_0.Idxs.length - 0) 0 ()) (fun r => r) (fun _ =>
          true)
    else
      false
  else
    false
def B_s_l24Idx_0 (p_t : DTable) (p_name : Str) (k11 : Nat) : Unit → Out Int Unit
  | () => bif ((p_t.Idxs.getD k11 d_Idx).Name) == p_name then
      .ret (k11 : Int)
    else
      .cont ()
def s_l24Idx (p_t : DTable) (p_name : Str) : Int :=
  loopE (loopM (B_s_l24Idx_0 p_t p_name) (p_t.Idxs.length - 0) 0 ()) (fun r => r) (fun _ =>
    -1)
def s_l24Own (p_t : DTable) : DTable :=
  (⟨p_t.Name, (([] : List Str) ++ p_t.Cols), (([] : List DIdx) ++ p_t.Idxs)⟩ : DTable)
def s_l24Set (p_t : DTable) (p_name : Str) (p_stage : Int) : DTable :=
  (⟨(s_l24Own p_t).Name, (s_l24Own p_t).Cols, (((s_l24Own p_t).Idxs).set (((s_l24Idx p_t p_name)).toNat) (⟨(((s_l24Own p_t).Idxs).getD (((s_l24Idx p_t p_name)).toNat) d_Idx).Name, (((s_l24Own p_t).Idxs).getD (((s_l24Idx p_t p_name)).toNat) d_Idx).Col, p_stage⟩ : DIdx))⟩ : DTable)
def B_s_l24Way_0 (p_t : DTable) (p_name : Str) (p_stage : Int) : (List DTable) × Int → Out (List DTable) ((List DTable) × Int)
  | (x81, x85) => bif decide (x85 = p_stage) then
      .brk (x81, x85)
    else
      bif decide (x85 < p_stage) then
        .cont ((x81 ++ ([(s_l24Set p_t p_name (IntKind.wrap .i64 (x85 + 1)))] : List DTable)), IntKind.wrap .i64 (x85 + 1))
      else
        .cont ((x81 ++ ([(s_l24Set p_t p_name (IntKind.wrap .i64 (x85 - 1)))] : List DTable)), IntKind.wrap .i64 (x85 - 1))
def s_l24Way (p_t : DTable) (p_name : Str) (p_stage : Int) : List DTable :=
  loopE (loopW (B_s_l24Way_0 p_t p_name p_stage) (((p_stage - (p_t.Idxs.getD (((s_l24Idx p_t p_name)).toNat) d_Idx).Stage).toNat + ((p_t.Idxs.getD (((s_l24Idx p_t p_name)).toNat) d_Idx).Stage - p_stage).toNat) + 1) (([(s_l24Own p_t)] : List DTable), (p_t.Idxs.getD (((s_l24Idx p_t p_name)).toNat) d_Idx).Stage)) (fun r => r) (fun (x81, x85) =>
    x81)
def B_s_l24SameCols_0 (p_0 : DTable) (p_1 : DTable) (k22 : Nat) : Unit → Out Bool Unit
  | () => bif (p_0.Cols.getD k22 d_Str) == (p_1.Cols.getD k22 d_Str) then
      .cont ()
    else
      .ret false
def B_s_l24SameCols_1 (p_0 : DTable) (p_1 : DTable) (k26 : Nat) : Unit → Out Bool Unit
  | () => bif ((p_0.Idxs.getD k26 d_Idx).Name) == ((p_1.Idxs.getD k26 d_Idx).Name) then
      bif decide (((p_0.Idxs.getD k26 d_Idx).Col) = ((p_1.Idxs.getD k26 d_Idx).Col)) then
        .cont ()
      else
        .ret false
    else
      .ret false
def s_l24SameCols (p_0 : DTable) (p_1 : DTable) : Bool :=
  bif p_0.Name == p_1.Name then
    bif decide ((p_0.Cols.length : Int) = (p_1.Cols.length : Int)) then
      bif decide ((p_0.Idxs.length : Int) = (p_1.Idxs.length : Int)) then
        loopE (loopM (B_s_l24SameCols_0 p_0 p_1) (p_0.Cols.length - 0) 0 ()) (fun r => r) (fun _ =>
          loopE (loopM (B_s_l24SameCols_1 p_0 p_1) (p_0.Idxs.length - 0) 0 ()) (fun r => r) (fun _ =>
            true))
      else
        false
    else
      false
  else
    false
def s_l1Most (p_a : Int) (p_b : Int) : Int :=
  bif decide (p_b < p_a) then
    p_a
  else
    p_b
def B_s_l24Far_0 (p_a : DTable) (p_b : DTable) (k19 : Nat) : Int → Out Int Int
  | (x20) => .cont (IntKind.wrap .i64 (x20 + (s_l1Most (IntKind.wrap .i64 (((p_a.Idxs.getD k19 d_Idx).Stage) - ((p_b.Idxs.getD k19 d_Idx).Stage))) (IntKind.wrap .i64 (0 - (IntKind.wrap .i64 (((p_a.Idxs.getD k19 d_Idx).Stage) - ((p_b.Idxs.getD k19 d_Idx).Stage))))))))
def s_l24Far (p_a : DTable) (p_b : DTable) : Int :=
  loopE (loopM (B_s_l24Far_0 p_a p_b) (p_a.Idxs.length - 0) 0 (0)) (fun r => r) (fun x20 =>
    x20)
def B_s_l27Ways_0 (p_0 : DShift) (k54 : Nat) : Unit → Out Bool Unit
  | () => bif s_GoodTable (p_0.Ways.getD k54 d_Table) then
      bif s_l24SameCols ((s_l24Way (p_0.Ways.getD 0 d_Table) p_0.Name ((((p_0.Ways.getD ((IntKind.wrap .i64 ((p_0.Ways.length : Int) - 1)).toNat) d_Table).Idxs).getD (((s_l24Idx (p_0.Ways.getD ((IntKind.wrap .i64 ((p_0.Ways.length : Int) - 1)).toNat) d_Table) p_0.Name)).toNat) d_Idx).Stage)).getD k54 d_Table) (p_0.Ways.getD k54 d_Table) then
        bif decide ((s_l24Far ((s_l24Way (p_0.Ways.getD 0 d_Table) p_0.Name ((((p_0.Ways.getD ((IntKind.wrap .i64 ((p_0.Ways.length : Int) - 1)).toNat) d_Table).Idxs).getD (((s_l24Idx (p_0.Ways.getD ((IntKind.wrap .i64 ((p_0.Ways.length : Int) - 1)).toNat) d_Table) p_0.Name)).toNat) d_Idx).Stage)).getD k54 d_Table) (p_0.Ways.getD k54 d_Table)) = 0) then
          .cont ()
        else
          .ret false
      else
        .ret false
    else
      .ret false
def s_l27Ways (p_0 : DShift) : Bool :=
  bif s_l1In (p_0.Ways.length : Int) 1 4 then
    bif s_GoodTable (p_0.Ways.getD 0 d_Table) then
      bif decide ((s_l24Idx (p_0.Ways.getD 0 d_Table) p_0.Name) < 0) then
        false
      else
        bif s_GoodTable (p_0.Ways.getD ((IntKind.wrap .i64 ((p_0.Ways.length : Int) - 1)).toNat) d_Table) then
          bif decide ((s_l24Idx (p_0.Ways.getD ((IntKind.wrap .i64 ((p_0.Ways.length : Int) - 1)).toNat) d_Table) p_0.Name) < 0) then
            false
          else
            bif decide (((s_l24Way (p_0.Ways.getD 0 d_Table) p_0.Name ((((p_0.Ways.getD ((IntKind.wrap .i64 ((p_0.Ways.length : Int) - 1)).toNat) d_Table).Idxs).getD (((s_l24Idx (p_0.Ways.getD ((IntKind.wrap .i64 ((p_0.Ways.length : Int) - 1)).toNat) d_Table) p_0.Name)).toNat) d_Idx).Stage)).length : Int) = (p_0.Ways.length : Int)) then
              loopE (loopM (B_s_l27Ways_0 p_0) ((s_l24Way (p_0.Ways.getD 0 d_Table) p_0.Name ((((p_0.Ways.getD ((IntKind.wrap .i64 ((p_0.Ways.length : Int) - 1)).toNat) d_Table).Idxs).getD (((s_l24Idx (p_0.Ways.getD ((IntKind.wrap .i64 ((p_0.Ways.length : Int) - 1)).toNat) d_Table) p_0.Name)).toNat) d_Idx).Stage)).length - 0) 0 ()) (fun r => r) (fun _ =>
                true)
            else
              false
        else
          false
    else
      false
  else
    false
def B_s_l1All_0 (p_l : List Int) (p_lo : Int) (p_hi : Int) (k3 : Nat) : Unit → Out Bool Unit
  | () => bif s_l1In (p_l.getD k3 d_Int) p_lo p_hi then
      .cont ()
    else
      .ret false
def s_l1All (p_l : List Int) (p_lo : Int) (p_hi : Int) : Bool :=
  loopE (loopM (B_s_l1All_0 p_l p_lo p_hi) (p_l.length - 0) 0 ()) (fun r => r) (fun _ =>
    true)
def s_GoodShift (p_c : DShift) : Bool :=
  bif s_l27Ways p_c then
    bif s_l1In (p_c.At.length : Int) 1 3 then
      bif s_l1All p_c.At 0 (IntKind.wrap .i64 ((p_c.Ways.length : Int) - 1)) then
        (s_l5Rows p_c.Store)
      else
        false
    else
      false
  else
    false
def s_GoodFill (p_f : DFill) : Bool :=
  bif p_f.Last == ([] : Str) then
    true
  else
    (s_l3Key p_f.Last)
def s_GoodWork (p_w : DWork) : Bool :=
  bif s_GoodShift p_w.Shift then
    bif s_GoodFill p_w.Up then
      (s_GoodFill p_w.Down)
    else
      false
  else
    false
def B_s_l24Join_0 (p_l : List Str) (p_by : Str) (k4 : Nat) : Str → Out Str Str
  | (x12) => bif decide (0 < (k4 : Int)) then
      .cont ((x12 ++ p_by) ++ (p_l.getD k4 d_Str))
    else
      .cont (x12 ++ (p_l.getD k4 d_Str))
def s_l24Join (p_l : List Str) (p_by : Str) : Str :=
  loopE (loopM (B_s_l24Join_0 p_l p_by) (p_l.length - 0) 0 (([] : Str))) (fun r => r) (fun x12 =>
    x12)
def s_l25Write (p_t : DTable) (p_r : DRow) : DWrite :=
  (⟨(p_t.Name ++ ([47] : Str)) ++ (p_r.Vals.getD 0 d_Str), (s_l24Join (p_r.Vals.drop 1) ([44] : Str)), false⟩ : DWrite)
def B_s_l1Split_0 (p_s : Str) (p_b : Int) (k2 : Nat) : (List Str) × Int → Out (List Str) ((List Str) × Int)
  | (x20, x24) => bif decide (((p_s.getD k2 0).toNat : Int) = p_b) then
      .cont ((x20 ++ ([((p_s.take k2).drop ((x24).toNat))] : List Str)), ((k2 + 1 : Nat) : Int))
    else
      .cont (x20, x24)
def s_l1Split (p_s : Str) (p_b : Int) : List Str :=
  loopE (loopM (B_s_l1Split_0 p_s p_b) (p_s.length - 0) 0 (([] : List Str), 0)) (fun r => r) (fun (x20, x24) =>
    (x20 ++ ([(p_s.drop ((x24).toNat))] : List Str)))
def s_l25Field (p_s : Str) : Bool :=
  bif s_l1In (p_s.length : Int) 1 3 then
    (s_l3Bytes p_s ([] : Str))
  else
    false
def B_s_l25Good_0 (p_t : DTable) (p_r : DRow) (k18 : Nat) : Unit → Out Bool Unit
  | () => bif s_l25Field (p_r.Vals.getD k18 d_Str) then
      .cont ()
    else
      .ret false
def s_l25Good (p_t : DTable) (p_r : DRow) : Bool :=
  loopE (loopM (B_s_l25Good_0 p_t p_r) (p_r.Vals.length - 0) 0 ()) (fun r => r) (fun _ =>
    decide ((p_r.Vals.length : Int) = (p_t.Cols.length : Int)))
def s_l25Read (p_t : DTable) (p_w : DWrite) : DRow × Bool :=
  bif decide ((p_w.Key.length : Int) < 3) then
    ((⟨[]⟩ : DRow), false)
  else
    bif s_l25Good p_t (⟨(([(p_w.Key.drop 2)] : List Str) ++ (s_l1Split p_w.Val 44))⟩ : DRow) then
      ((⟨(([(p_w.Key.drop 2)] : List Str) ++ (s_l1Split p_w.Val 44))⟩ : DRow), ((((s_l25Write p_t (⟨(([(p_w.Key.drop 2)] : List Str) ++ (s_l1Split p_w.Val 44))⟩ : DRow)).Key) == p_w.Key) && ((((s_l25Write p_t (⟨(([(p_w.Key.drop 2)] : List Str) ++ (s_l1Split p_w.Val 44))⟩ : DRow)).Val) == p_w.Val) && (((s_l25Write p_t (⟨(([(p_w.Key.drop 2)] : List Str) ++ (s_l1Split p_w.Val 44))⟩ : DRow)).Gone) == p_w.Gone))))
    else
      ((⟨(([(p_w.Key.drop 2)] : List Str) ++ (s_l1Split p_w.Val 44))⟩ : DRow), false)
def B_s_l25Rows_0 (p_t : DTable) (p_store : List DWrite) (k12 : Nat) : (List DRow) → Out (List DRow) (List DRow)
  | (x94) => bif (s_l25Read p_t (p_store.getD k12 d_Write)).2 then
      .cont ((x94 ++ ([(s_l25Read p_t (p_store.getD k12 d_Write)).1] : List DRow)))
    else
      .cont (x94)
def s_l25Rows (p_t : DTable) (p_store : List DWrite) : List DRow :=
  loopE (loopM (B_s_l25Rows_0 p_t p_store) (p_store.length - 0) 0 (([] : List DRow))) (fun r => r) (fun x94 =>
    x94)
def s_l25ReadEntry (p_t : DTable) (p_name : Str) (p_key : Str) : Str × Str × Bool :=
  bif decide (((s_l1Split p_key 47).length : Int) = 3) then
    bif ((s_l1Split p_key 47).getD 0 d_Str) == ((p_t.Name ++ ([46] : Str)) ++ p_name) then
      bif s_l25Field ((s_l1Split p_key 47).getD 1 d_Str) then
        bif s_l25Field ((s_l1Split p_key 47).getD 2 d_Str) then
          (((s_l1Split p_key 47).getD 1 d_Str), ((s_l1Split p_key 47).getD 2 d_Str), true)
        else
          (([] : Str), ([] : Str), false)
      else
        (([] : Str), ([] : Str), false)
    else
      (([] : Str), ([] : Str), false)
  else
    (([] : Str), ([] : Str), false)
def B_s_l25Entries_0 (p_t : DTable) (p_name : Str) (p_store : List DWrite) (k13 : Nat) : (List Str) → Out (List Str) (List Str)
  | (x75) => bif (s_l25ReadEntry p_t p_name ((p_store.getD k13 d_Write).Key)).2.2 then
      .cont ((x75 ++ ([(p_store.getD k13 d_Write).Key] : List Str)))
    else
      .cont (x75)
def s_l25Entries (p_t : DTable) (p_name : Str) (p_store : List DWrite) : List Str :=
  loopE (loopM (B_s_l25Entries_0 p_t p_name p_store) (p_store.length - 0) 0 (([] : List Str))) (fun r => r) (fun x75 =>
    x75)
def s_l25Entry (p_t : DTable) (p_x : DIdx) (p_r : DRow) : Str :=
  (((((p_t.Name ++ ([46] : Str)) ++ p_x.Name) ++ ([47] : Str)) ++ (p_r.Vals.getD ((p_x.Col).toNat) d_Str)) ++ ([47] : Str)) ++ (p_r.Vals.getD 0 d_Str)
def B_s_l29Filled_0 (p_w : DWork) (k44 : Nat) : Unit → Out Bool Unit
  | () => bif p_w.Up.Over then
      bif decide ((s_l24At (s_l25Entries (p_w.Shift.Ways.getD 0 d_Table) p_w.Shift.Name p_w.Shift.Store) (s_l25Entry (p_w.Shift.Ways.getD 0 d_Table) (((p_w.Shift.Ways.getD 0 d_Table).Idxs).getD (((s_l24Idx (p_w.Shift.Ways.getD 0 d_Table) p_w.Shift.Name)).toNat) d_Idx) ((s_l25Rows (p_w.Shift.Ways.getD 0 d_Table) p_w.Shift.Store).getD k44 d_Row))) < 0) then
        .ret false
      else
        .cont ()
    else
      bif sLe ((s_l25Write (p_w.Shift.Ways.getD 0 d_Table) ((s_l25Rows (p_w.Shift.Ways.getD 0 d_Table) p_w.Shift.Store).getD k44 d_Row)).Key) p_w.Up.Last then
        bif decide ((s_l24At (s_l25Entries (p_w.Shift.Ways.getD 0 d_Table) p_w.Shift.Name p_w.Shift.Store) (s_l25Entry (p_w.Shift.Ways.getD 0 d_Table) (((p_w.Shift.Ways.getD 0 d_Table).Idxs).getD (((s_l24Idx (p_w.Shift.Ways.getD 0 d_Table) p_w.Shift.Name)).toNat) d_Idx) ((s_l25Rows (p_w.Shift.Ways.getD 0 d_Table) p_w.Shift.Store).getD k44 d_Row))) < 0) then
          .ret false
        else
          .cont ()
      else
        .cont ()
def s_l29Filled (p_w : DWork) : Bool :=
  loopE (loopM (B_s_l29Filled_0 p_w) ((s_l25Rows (p_w.Shift.Ways.getD 0 d_Table) p_w.Shift.Store).length - 0) 0 ()) (fun r => r) (fun _ =>
    true)
def s_IsFilled (p_w : DWork) : Bool × Bool :=
  bif s_GoodWork p_w then
    ((s_l29Filled p_w), true)
  else
    (false, false)
def l_toWrite (p_a : DWrite) : DWrite :=
  p_a
def B_l_toWriteS_0 (p_a : List DWrite) (k10 : Nat) : (List DWrite) → Out (List DWrite) (List DWrite)
  | (x21) => .cont ((x21.set k10 (p_a.getD k10 d_Write)))
def l_toWriteS (p_a : List DWrite) : List DWrite :=
  loopE (loopM (B_l_toWriteS_0 p_a) (p_a.length - 0) 0 ((List.replicate p_a.length d_Write))) (fun r => r) (fun x21 =>
    x21)
def B_l_toStringS_0 (p_a : List Str) (k10 : Nat) : (List Str) → Out (List Str) (List Str)
  | (x18) => .cont ((x18.set k10 (p_a.getD k10 d_Str)))
def l_toStringS (p_a : List Str) : List Str :=
  loopE (loopM (B_l_toStringS_0 p_a) (p_a.length - 0) 0 ((List.replicate p_a.length d_Str))) (fun r => r) (fun x18 =>
    x18)
def l_toIdx (p_a : DIdx) : DIdx :=
  p_a
def B_l_toIdxS_0 (p_a : List DIdx) (k10 : Nat) : (List DIdx) → Out (List DIdx) (List DIdx)
  | (x21) => .cont ((x21.set k10 (p_a.getD k10 d_Idx)))
def l_toIdxS (p_a : List DIdx) : List DIdx :=
  loopE (loopM (B_l_toIdxS_0 p_a) (p_a.length - 0) 0 ((List.replicate p_a.length d_Idx))) (fun r => r) (fun x21 =>
    x21)
def l_toTable (p_a : DTable) : DTable :=
  p_a
def B_l_toTableS_0 (p_a : List DTable) (k10 : Nat) : (List DTable) → Out (List DTable) (List DTable)
  | (x32) => .cont ((x32.set k10 (p_a.getD k10 d_Table)))
def l_toTableS (p_a : List DTable) : List DTable :=
  loopE (loopM (B_l_toTableS_0 p_a) (p_a.length - 0) 0 ((List.replicate p_a.length d_Table))) (fun r => r) (fun x32 =>
    x32)
def B_l_toIntS_0 (p_a : List Int) (k10 : Nat) : (List Int) → Out (List Int) (List Int)
  | (x18) => .cont ((x18.set k10 (p_a.getD k10 d_Int)))
def l_toIntS (p_a : List Int) : List Int :=
  loopE (loopM (B_l_toIntS_0 p_a) (p_a.length - 0) 0 ((List.replicate p_a.length d_Int))) (fun r => r) (fun x18 =>
    x18)
def l_toShift (p_a : DShift) : DShift :=
  p_a
def l_toFill (p_a : DFill) : DFill :=
  p_a
def l_toWork (p_a : DWork) : DWork :=
  p_a
def g_strings_Join (p_elems : List Str) (p_sep : Str) : Str :=
  p_sep.intercalate p_elems
def i_Table_rowWrite (p_t : DTable) (p_r : DRow) : DWrite :=
  (⟨(p_t.Name ++ ([47] : Str)) ++ (p_r.Vals.getD 0 d_Str), (g_strings_Join (p_r.Vals.drop 1) ([44] : Str)), false⟩ : DWrite)
def g_internal_stringslite_HasPrefix (p_s : Str) (p_prefix : Str) : Bool :=
  bif decide ((p_prefix.length : Int) ≤ (p_s.length : Int)) then
    (p_s.take p_prefix.length) == p_prefix
  else
    false
def g_internal_stringslite_CutPrefix (p_s : Str) (p_prefix : Str) : Str × Bool :=
  bif g_internal_stringslite_HasPrefix p_s p_prefix then
    ((p_s.drop p_prefix.length), true)
  else
    (p_s, false)
def g_strings_CutPrefix (p_s : Str) (p_prefix : Str) : Str × Bool :=
  ((g_internal_stringslite_CutPrefix p_s p_prefix).1, (g_internal_stringslite_CutPrefix p_s p_prefix).2)
def g_internal_stringslite_IndexByte (p_s : Str) (p_c : Int) : Int :=
  idxB p_s p_c
def g_internal_bytealg_Cutover (p_n : Int) : Int :=
  IntKind.wrap .i64 (Int.tdiv (IntKind.wrap .i64 (p_n + 16)) 8)
def g_internal_stringslite_Index (p_0 : Str) (p_1 : Str) : Int :=
  bif p_1 == p_0 then
    0
  else
    (g_internal_stringslite_IndexByte p_0 ((p_1.getD 0 0).toNat : Int))
def g_strings_Index (p_s : Str) (p_substr : Str) : Int :=
  (g_internal_stringslite_Index p_s p_substr)
def g_strings_Split (p_s : Str) (p_sep : Str) : List Str :=
  sp (p_sep.headD 0) p_s
def B_g_slices_IndexFunc_string_0 (p_s : List Str) (p_f : Str → Bool) (k7 : Nat) : Unit → Out Int Unit
  | () => bif p_f (p_s.getD k7 d_Str) then
      .ret (k7 : Int)
    else
      .cont ()
def g_slices_IndexFunc_string (p_s : List Str) (p_f : Str → Bool) : Int :=
  loopE (loopM (B_g_slices_IndexFunc_string_0 p_s p_f) (p_s.length - 0) 0 ()) (fun r => r) (fun _ =>
    -1)
def g_slices_ContainsFunc_string (p_s : List Str) (p_f : Str → Bool) : Bool :=
  decide (0 ≤ (g_slices_IndexFunc_string p_s p_f))
def i_within (p_n : Int) (p_low : Int) (p_high : Int) : Bool :=
  bif decide (p_low ≤ p_n) then
    decide (p_n ≤ p_high)
  else
    false
def i_isLowerOrDigit (p_b : Int) : Bool :=
  bif decide (97 ≤ p_b) then
    bif decide (p_b ≤ 122) then
      true
    else
      bif decide (48 ≤ p_b) then
        decide (p_b ≤ 57)
      else
        false
  else
    bif decide (48 ≤ p_b) then
      decide (p_b ≤ 57)
    else
      false
def g_strings_IndexByte (p_s : Str) (p_c : Int) : Int :=
  (g_internal_stringslite_IndexByte p_s p_c)
def B_i_hasBytes_0 (p_s : Str) (p_others : Str) (k3 : Nat) : Unit → Out Bool Unit
  | () => bif i_isLowerOrDigit ((p_s.getD k3 0).toNat : Int) then
      .cont ()
    else
      bif decide ((g_strings_IndexByte p_others ((p_s.getD k3 0).toNat : Int)) < 0) then
        .ret false
      else
        .cont ()
def i_hasBytes (p_s : Str) (p_others : Str) : Bool :=
  loopE (loopM (B_i_hasBytes_0 p_s p_others) (p_s.length - 0) 0 ()) (fun r => r) (fun _ =>
    true)
def i_isField (p_s : Str) : Bool :=
  bif i_within (p_s.length : Int) 1 3 then
    (i_hasBytes p_s ([] : Str))
  else
    false
def i_Table_isRow_c1 (p_s : Str) : Bool :=
  !(i_isField p_s)
def i_Table_isRow (p_t : DTable) (p_r : DRow) : Bool :=
  bif decide ((p_r.Vals.length : Int) = (p_t.Cols.length : Int)) then
    !(g_slices_ContainsFunc_string p_r.Vals (fun y0 => i_Table_isRow_c1 y0))
  else
    false
def i_Table_readRow (p_t : DTable) (p_w : DWrite) : DRow × Bool :=
  bif (g_strings_CutPrefix p_w.Key (p_t.Name ++ ([47] : Str))).2 then
    bif i_Table_isRow p_t (⟨(([(g_strings_CutPrefix p_w.Key (p_t.Name ++ ([47] : Str))).1] : List Str) ++ (g_strings_Split p_w.Val ([44] : Str)))⟩ : DRow) then
      bif (p_w.Key == ((i_Table_rowWrite p_t (⟨(([(g_strings_CutPrefix p_w.Key (p_t.Name ++ ([47] : Str))).1] : List Str) ++ (g_strings_Split p_w.Val ([44] : Str)))⟩ : DRow)).Key)) && ((p_w.Val == ((i_Table_rowWrite p_t (⟨(([(g_strings_CutPrefix p_w.Key (p_t.Name ++ ([47] : Str))).1] : List Str) ++ (g_strings_Split p_w.Val ([44] : Str)))⟩ : DRow)).Val)) && (p_w.Gone == ((i_Table_rowWrite p_t (⟨(([(g_strings_CutPrefix p_w.Key (p_t.Name ++ ([47] : Str))).1] : List Str) ++ (g_strings_Split p_w.Val ([44] : Str)))⟩ : DRow)).Gone))) then
        ((⟨(([(g_strings_CutPrefix p_w.Key (p_t.Name ++ ([47] : Str))).1] : List Str) ++ (g_strings_Split p_w.Val ([44] : Str)))⟩ : DRow), true)
      else
        ((⟨[]⟩ : DRow), false)
    else
      ((⟨[]⟩ : DRow), false)
  else
    ((⟨[]⟩ : DRow), false)
def B_i_Table_rowsIn_0 (p_t : DTable) (p_store : List DWrite) (k19 : Nat) : (List DRow) → Out (List DRow) (List DRow)
  | (x101) => bif (i_Table_readRow p_t (p_store.getD k19 d_Write)).2 then
      .cont ((x101 ++ ([(i_Table_readRow p_t (p_store.getD k19 d_Write)).1] : List DRow)))
    else
      .cont (x101)
def i_Table_rowsIn (p_t : DTable) (p_store : List DWrite) : List DRow :=
  loopE (loopM (B_i_Table_rowsIn_0 p_t p_store) (p_store.length - 0) 0 (([] : List DRow))) (fun r => r) (fun x101 =>
    x101)
def B_g_slices_IndexFunc_Write_0 (p_s : List DWrite) (p_f : DWrite → Bool) (k7 : Nat) : Unit → Out Int Unit
  | () => bif p_f (p_s.getD k7 d_Write) then
      .ret (k7 : Int)
    else
      .cont ()
def g_slices_IndexFunc_Write (p_s : List DWrite) (p_f : DWrite → Bool) : Int :=
  loopE (loopM (B_g_slices_IndexFunc_Write_0 p_s p_f) (p_s.length - 0) 0 ()) (fun r => r) (fun _ =>
    -1)
def g_slices_ContainsFunc_Write (p_s : List DWrite) (p_f : DWrite → Bool) : Bool :=
  decide (0 ≤ (g_slices_IndexFunc_Write p_s p_f))
def i_GoodKey (p_s : Str) : Bool :=
  bif i_within (p_s.length : Int) 1 12 then
    (i_hasBytes p_s ([46, 47] : Str))
  else
    false
def B_i_areRising_0 (p_keys : List Str) (k3 : Nat) : Unit → Out Bool Unit
  | () => bif i_GoodKey (p_keys.getD k3 d_Str) then
      bif decide (0 < (k3 : Int)) then
        bif sLe (p_keys.getD k3 d_Str) (p_keys.getD ((IntKind.wrap .i64 ((k3 : Int) - 1)).toNat) d_Str) then
          .ret false
        else
          .cont ()
      else
        .cont ()
    else
      .ret false
def i_areRising (p_keys : List Str) : Bool :=
  loopE (loopM (B_i_areRising_0 p_keys) (p_keys.length - 0) 0 ()) (fun r => r) (fun _ =>
    true)
def B_i_writeKeys_0 (p_l : List DWrite) (k10 : Nat) : (List Str) → Out (List Str) (List Str)
  | (x60) => .cont ((x60 ++ ([(p_l.getD k10 d_Write).Key] : List Str)))
def i_writeKeys (p_l : List DWrite) : List Str :=
  loopE (loopM (B_i_writeKeys_0 p_l) (p_l.length - 0) 0 (([] : List Str))) (fun r => r) (fun x60 =>
    x60)
def i_GoodVal (p_s : Str) : Bool :=
  bif decide ((p_s.length : Int) ≤ 24) then
    (i_hasBytes p_s ([46, 45, 44, 95] : Str))
  else
    false
def i_isStored (p_val : Str) (p_gone : Bool) : Bool :=
  bif i_GoodVal p_val then
    bif p_gone then
      !(!(p_val == ([] : Str)))
    else
      !false
  else
    false
def i_GoodWrites_c1 (p_w : DWrite) : Bool :=
  !(i_isStored p_w.Val p_w.Gone)
def i_GoodWrites (p_l : List DWrite) : Bool :=
  bif decide ((p_l.length : Int) ≤ 24) then
    bif i_areRising (i_writeKeys p_l) then
      !(g_slices_ContainsFunc_Write p_l (fun y0 => i_GoodWrites_c1 y0))
    else
      false
  else
    false
def i_isRows_c1 (p_w : DWrite) : Bool :=
  p_w.Gone
def i_isRows (p_rows : List DWrite) : Bool :=
  bif i_GoodWrites p_rows then
    !(g_slices_ContainsFunc_Write p_rows (fun y0 => i_isRows_c1 y0))
  else
    false
def B_g_slices_IndexFunc_Table_0 (p_s : List DTable) (p_f : DTable → Bool) (k9 : Nat) : Unit → Out Int Unit
  | () => bif p_f (p_s.getD k9 d_Table) then
      .ret (k9 : Int)
    else
      .cont ()
def g_slices_IndexFunc_Table (p_s : List DTable) (p_f : DTable → Bool) : Int :=
  loopE (loopM (B_g_slices_IndexFunc_Table_0 p_s p_f) (p_s.length - 0) 0 ()) (fun r => r) (fun _ =>
    -1)
def g_slices_ContainsFunc_Table (p_s : List DTable) (p_f : DTable → Bool) : Bool :=
  decide (0 ≤ (g_slices_IndexFunc_Table p_s p_f))
def B_g_slices_Index_string_0 (p_s : List Str) (p_v : Str) (k4 : Nat) : Unit → Out Int Unit
  | () => bif p_v == (p_s.getD k4 d_Str) then
      .ret (k4 : Int)
    else
      .cont ()
def g_slices_Index_string (p_s : List Str) (p_v : Str) : Int :=
  loopE (loopM (B_g_slices_Index_string_0 p_s p_v) (p_s.length - 0) 0 ()) (fun r => r) (fun _ =>
    -1)
def g_slices_Contains_string (p_s : List Str) (p_v : Str) : Bool :=
  decide (0 ≤ (g_slices_Index_string p_s p_v))
def B_i_areLetters_0 (p_s : Str) (p_most : Int) (k2 : Nat) : Unit → Out Bool Unit
  | () => bif decide (((p_s.getD k2 0).toNat : Int) < 97) then
      .ret false
    else
      bif decide (122 < ((p_s.getD k2 0).toNat : Int)) then
        .ret false
      else
        .cont ()
def i_areLetters (p_s : Str) (p_most : Int) : Bool :=
  loopE (loopM (B_i_areLetters_0 p_s p_most) (p_s.length - 0) 0 ()) (fun r => r) (fun _ =>
    (i_within (p_s.length : Int) 1 p_most))
def i_isStage (p_stage : Int) : Bool :=
  (i_within p_stage 0 3)
def B_i_GoodTable_0 (p_0 : DTable) (k19 : Nat) : Unit → Out Bool Unit
  | () => bif i_areLetters (p_0.Cols.getD k19 d_Str) 3 then
      bif g_slices_Contains_string (p_0.Cols.take k19) (p_0.Cols.getD k19 d_Str) then
        .ret false
      else
        .cont ()
    else
      .ret false
def B_i_GoodTable_1 (p_0 : DTable) (k35 : Nat) : Unit → Out Bool Unit
  | () => bif i_areLetters ((p_0.Idxs.getD k35 d_Idx).Name) 1 then
      bif i_within ((p_0.Idxs.getD k35 d_Idx).Col) 1 (IntKind.wrap .i64 ((p_0.Cols.length : Int) - 1)) then
        bif i_isStage ((p_0.Idxs.getD k35 d_Idx).Stage) then
          bif decide (0 < (k35 : Int)) then
            bif sLe ((p_0.Idxs.getD k35 d_Idx).Name) ((p_0.Idxs.getD ((IntKind.wrap .i64 ((k35 : Int) - 1)).toNat) d_Idx).Name) then
              .ret false
            else
              .cont ()
          else
            .cont ()
        else
          .ret false
      else
        .ret false
    else
      .ret false
def i_GoodTable (p_0 : DTable) : Bool :=
  bif i_areLetters p_0.Name 1 then
    bif i_within (p_0.Cols.length : Int) 2 4 then
      bif decide (3 < (p_0.Idxs.length : Int)) then
        false
      else
        loopE (loopM (B_i_GoodTable_0 p_0) (p_0.Cols.length - 0) 0 ()) (fun r => r) (fun _ =>
          loopE (loopM (B_i_GoodTable_1 p_0) (p_0.Idxs.length - 0) 0 ()) (fun r => r) (fun _ =>
            true))
    else
      false
  else
    false
def B_g_slices_IndexFunc_Idx_0 (p_s : List DIdx) (p_f : DIdx → Bool) (k7 : Nat) : Unit → Out Int Unit
  | () => bif p_f (p_s.getD k7 d_Idx) then
      .ret (k7 : Int)
    else
      .cont ()
def g_slices_IndexFunc_Idx (p_s : List DIdx) (p_f : DIdx → Bool) : Int :=
  loopE (loopM (B_g_slices_IndexFunc_Idx_0 p_s p_f) (p_s.length - 0) 0 ()) (fun r => r) (fun _ =>
    -1)
def i_Table_findIdx_c1 (p_x : DIdx) (p_cap0 : Str) : Bool :=
  p_x.Name == p_cap0
def i_Table_findIdx (p_t : DTable) (p_name : Str) : Int :=
  (g_slices_IndexFunc_Idx p_t.Idxs (fun y0 => i_Table_findIdx_c1 y0 p_name))
def i_hasIdx (p_t : DTable) (p_name : Str) : Bool :=
  bif i_GoodTable p_t then
    decide (0 ≤ (i_Table_findIdx p_t p_name))
  else
    false
def i_GoodShift_c1 (p_t : DTable) (p_cap0 : DShift) : Bool :=
  !(i_hasIdx p_t p_cap0.Name)
def B_g_slices_IndexFunc_int_0 (p_s : List Int) (p_f : Int → Bool) (k7 : Nat) : Unit → Out Int Unit
  | () => bif p_f (p_s.getD k7 d_Int) then
      .ret (k7 : Int)
    else
      .cont ()
def g_slices_IndexFunc_int (p_s : List Int) (p_f : Int → Bool) : Int :=
  loopE (loopM (B_g_slices_IndexFunc_int_0 p_s p_f) (p_s.length - 0) 0 ()) (fun r => r) (fun _ =>
    -1)
def g_slices_ContainsFunc_int (p_s : List Int) (p_f : Int → Bool) : Bool :=
  decide (0 ≤ (g_slices_IndexFunc_int p_s p_f))
def i_GoodShift_c2 (p_n : Int) (p_cap0 : DShift) : Bool :=
  !(i_within p_n 0 (IntKind.wrap .i64 ((p_cap0.Ways.length : Int) - 1)))
def B_g_slices_EqualFunc_Table_0 (p_s1 : List DTable) (p_s2 : List DTable) (p_eq : DTable → DTable → Bool) (k14 : Nat) : Unit → Out Bool Unit
  | () => bif p_eq (p_s1.getD k14 d_Table) (p_s2.getD k14 d_Table) then
      .cont ()
    else
      .ret false
def g_slices_EqualFunc_Table (p_s1 : List DTable) (p_s2 : List DTable) (p_eq : DTable → DTable → Bool) : Bool :=
  bif decide ((p_s1.length : Int) = (p_s2.length : Int)) then
    loopE (loopM (B_g_slices_EqualFunc_Table_0 p_s1 p_s2 p_eq) (p_s1.length - 0) 0 ()) (fun r => r) (fun _ =>
      true)
  else
    false
def i_Table_idx (p_t : DTable) (p_name : Str) : DIdx :=
  (p_t.Idxs.getD (((i_Table_findIdx p_t p_name)).toNat) d_Idx)
def g_slices_Clone_string (p_s : List Str) : List Str :=
  (([] : List Str) ++ p_s)
def g_slices_Clone_Idx (p_s : List DIdx) : List DIdx :=
  (([] : List DIdx) ++ p_s)
def i_copyTable (p_t : DTable) : DTable :=
  (⟨p_t.Name, (g_slices_Clone_string p_t.Cols), (g_slices_Clone_Idx p_t.Idxs)⟩ : DTable)
def i_Table_withStage (p_t : DTable) (p_name : Str) (p_stage : Int) : DTable :=
  (⟨(i_copyTable p_t).Name, (i_copyTable p_t).Cols, (((i_copyTable p_t).Idxs).set (((i_Table_findIdx p_t p_name)).toNat) (⟨(((i_copyTable p_t).Idxs).getD (((i_Table_findIdx p_t p_name)).toNat) d_Idx).Name, (((i_copyTable p_t).Idxs).getD (((i_Table_findIdx p_t p_name)).toNat) d_Idx).Col, p_stage⟩ : DIdx))⟩ : DTable)
def B_i_Table_wayTo_0 (p_t : DTable) (p_name : Str) (p_stage : Int) : Int × (List DTable) → Out (List DTable) (Int × (List DTable))
  | (x83, x84) => bif decide (x83 = p_stage) then
      .brk (x83, x84)
    else
      bif decide (x83 < p_stage) then
        .cont (IntKind.wrap .i64 (x83 + 1), (x84 ++ ([(i_Table_withStage p_t p_name (IntKind.wrap .i64 (x83 + 1)))] : List DTable)))
      else
        .cont (IntKind.wrap .i64 (x83 - 1), (x84 ++ ([(i_Table_withStage p_t p_name (IntKind.wrap .i64 (x83 - 1)))] : List DTable)))
def i_Table_wayTo (p_t : DTable) (p_name : Str) (p_stage : Int) : List DTable :=
  loopE (loopW (B_i_Table_wayTo_0 p_t p_name p_stage) (((p_stage - (i_Table_idx p_t p_name).Stage).toNat + ((i_Table_idx p_t p_name).Stage - p_stage).toNat) + 1) ((i_Table_idx p_t p_name).Stage, ([(i_copyTable p_t)] : List DTable))) (fun r => r) (fun (x83, x84) =>
    x84)
def i_Shift_stageOf (p_c : DShift) (p_t : DTable) : Int :=
  (i_Table_idx p_t p_c.Name).Stage
def B_g_slices_Equal_string_0 (p_s1 : List Str) (p_s2 : List Str) (k6 : Nat) : Unit → Out Bool Unit
  | () => bif (p_s1.getD k6 d_Str) == (p_s2.getD k6 d_Str) then
      .cont ()
    else
      .ret false
def g_slices_Equal_string (p_s1 : List Str) (p_s2 : List Str) : Bool :=
  bif decide ((p_s1.length : Int) = (p_s2.length : Int)) then
    loopE (loopM (B_g_slices_Equal_string_0 p_s1 p_s2) (p_s1.length - 0) 0 ()) (fun r => r) (fun _ =>
      true)
  else
    false
def B_g_slices_Equal_Idx_0 (p_s1 : List DIdx) (p_s2 : List DIdx) (k6 : Nat) : Unit → Out Bool Unit
  | () => bif (((p_s1.getD k6 d_Idx).Name) == ((p_s2.getD k6 d_Idx).Name)) && ((decide (((p_s1.getD k6 d_Idx).Col) = ((p_s2.getD k6 d_Idx).Col))) && (decide (((p_s1.getD k6 d_Idx).Stage) = ((p_s2.getD k6 d_Idx).Stage)))) then
      .cont ()
    else
      .ret false
def g_slices_Equal_Idx (p_s1 : List DIdx) (p_s2 : List DIdx) : Bool :=
  bif decide ((p_s1.length : Int) = (p_s2.length : Int)) then
    loopE (loopM (B_g_slices_Equal_Idx_0 p_s1 p_s2) (p_s1.length - 0) 0 ()) (fun r => r) (fun _ =>
      true)
  else
    false
def i_sameTable (p_a : DTable) (p_b : DTable) : Bool :=
  bif p_a.Name == p_b.Name then
    bif g_slices_Equal_string p_a.Cols p_b.Cols then
      (g_slices_Equal_Idx p_a.Idxs p_b.Idxs)
    else
      false
  else
    false
def i_GoodShift (p_c : DShift) : Bool :=
  bif i_within (p_c.Ways.length : Int) 1 4 then
    bif i_within (p_c.At.length : Int) 1 3 then
      bif i_isRows p_c.Store then
        bif g_slices_ContainsFunc_Table p_c.Ways (fun y0 => i_GoodShift_c1 y0 p_c) then
          false
        else
          bif g_slices_ContainsFunc_int p_c.At (fun y0 => i_GoodShift_c2 y0 p_c) then
            false
          else
            (g_slices_EqualFunc_Table p_c.Ways (i_Table_wayTo (p_c.Ways.getD 0 d_Table) p_c.Name (i_Shift_stageOf p_c (p_c.Ways.getD ((IntKind.wrap .i64 ((p_c.Ways.length : Int) - 1)).toNat) d_Table))) (fun y0 y1 => i_sameTable y0 y1))
      else
        false
    else
      false
  else
    false
def i_GoodFill (p_f : DFill) : Bool :=
  bif p_f.Last == ([] : Str) then
    true
  else
    (i_GoodKey p_f.Last)
def i_GoodWork (p_w : DWork) : Bool :=
  bif i_GoodShift p_w.Shift then
    bif i_GoodFill p_w.Up then
      (i_GoodFill p_w.Down)
    else
      false
  else
    false
def i_Table_idxHead (p_t : DTable) (p_name : Str) : Str :=
  ((p_t.Name ++ ([46] : Str)) ++ p_name) ++ ([47] : Str)
def g_internal_stringslite_Cut (p_s : Str) (p_sep : Str) : Str × Str × Bool :=
  bif decide (0 ≤ (g_internal_stringslite_Index p_s p_sep)) then
    ((p_s.take (((g_internal_stringslite_Index p_s p_sep)).toNat)), (p_s.drop ((IntKind.wrap .i64 ((g_internal_stringslite_Index p_s p_sep) + (p_sep.length : Int))).toNat)), true)
  else
    (p_s, ([] : Str), false)
def g_strings_Cut (p_s : Str) (p_sep : Str) : Str × Str × Bool :=
  ((g_internal_stringslite_Cut p_s p_sep).1, (g_internal_stringslite_Cut p_s p_sep).2.1, (g_internal_stringslite_Cut p_s p_sep).2.2)
def i_Table_readIdxKey (p_t : DTable) (p_name : Str) (p_key : Str) : Str × Str × Bool :=
  bif (g_strings_CutPrefix p_key (i_Table_idxHead p_t p_name)).2 then
    bif (g_strings_Cut ((g_strings_CutPrefix p_key (i_Table_idxHead p_t p_name)).1) ([47] : Str)).2.2 then
      bif i_isField ((g_strings_Cut ((g_strings_CutPrefix p_key (i_Table_idxHead p_t p_name)).1) ([47] : Str)).1) then
        bif i_isField ((g_strings_Cut ((g_strings_CutPrefix p_key (i_Table_idxHead p_t p_name)).1) ([47] : Str)).2.1) then
          ((g_strings_Cut ((g_strings_CutPrefix p_key (i_Table_idxHead p_t p_name)).1) ([47] : Str)).1, (g_strings_Cut ((g_strings_CutPrefix p_key (i_Table_idxHead p_t p_name)).1) ([47] : Str)).2.1, true)
        else
          (([] : Str), ([] : Str), false)
      else
        (([] : Str), ([] : Str), false)
    else
      (([] : Str), ([] : Str), false)
  else
    (([] : Str), ([] : Str), false)
def B_i_Table_entriesIn_0 (p_t : DTable) (p_name : Str) (p_store : List DWrite) (k20 : Nat) : (List Str) → Out (List Str) (List Str)
  | (x82) => bif (i_Table_readIdxKey p_t p_name ((p_store.getD k20 d_Write).Key)).2.2 then
      .cont ((x82 ++ ([(p_store.getD k20 d_Write).Key] : List Str)))
    else
      .cont (x82)
def i_Table_entriesIn (p_t : DTable) (p_name : Str) (p_store : List DWrite) : List Str :=
  loopE (loopM (B_i_Table_entriesIn_0 p_t p_name p_store) (p_store.length - 0) 0 (([] : List Str))) (fun r => r) (fun x82 =>
    x82)
def B_g_slices_IndexFunc_Row_0 (p_s : List DRow) (p_f : DRow → Bool) (k8 : Nat) : Unit → Out Int Unit
  | () => bif p_f (p_s.getD k8 d_Row) then
      .ret (k8 : Int)
    else
      .cont ()
def g_slices_IndexFunc_Row (p_s : List DRow) (p_f : DRow → Bool) : Int :=
  loopE (loopM (B_g_slices_IndexFunc_Row_0 p_s p_f) (p_s.length - 0) 0 ()) (fun r => r) (fun _ =>
    -1)
def g_slices_ContainsFunc_Row (p_s : List DRow) (p_f : DRow → Bool) : Bool :=
  decide (0 ≤ (g_slices_IndexFunc_Row p_s p_f))
def i_Table_idxKey (p_t : DTable) (p_name : Str) (p_r : DRow) : Str :=
  (((i_Table_idxHead p_t p_name) ++ (p_r.Vals.getD (((i_Table_idx p_t p_name).Col).toNat) d_Str)) ++ ([47] : Str)) ++ (p_r.Vals.getD 0 d_Str)
def i_IsFilled_c1 (p_r : DRow) (p_cap0 : DWork) (p_cap1 : DShift) (p_cap2 : List Str) : Bool :=
  bif p_cap0.Up.Over then
    !(g_slices_Contains_string p_cap2 (i_Table_idxKey (p_cap1.Ways.getD 0 d_Table) p_cap1.Name p_r))
  else
    bif sLe ((i_Table_rowWrite (p_cap1.Ways.getD 0 d_Table) p_r).Key) p_cap0.Up.Last then
      !(g_slices_Contains_string p_cap2 (i_Table_idxKey (p_cap1.Ways.getD 0 d_Table) p_cap1.Name p_r))
    else
      false
def i_IsFilled (p_w : DWork) : Bool × Bool :=
  bif i_GoodWork p_w then
    (!(g_slices_ContainsFunc_Row (i_Table_rowsIn (p_w.Shift.Ways.getD 0 d_Table) p_w.Shift.Store) (fun y0 => i_IsFilled_c1 y0 p_w p_w.Shift (i_Table_entriesIn (p_w.Shift.Ways.getD 0 d_Table) p_w.Shift.Name p_w.Shift.Store))), true)
  else
    (false, false)
def l_eqWrite (p_a : DWrite) (p_b : DWrite) : Bool :=
  bif p_a.Key == p_b.Key then
    bif p_a.Val == p_b.Val then
      bif p_a.Gone == p_b.Gone then
        true
      else
        false
    else
      false
  else
    false
def B_l_eqWriteS_0 (p_a : List DWrite) (p_b : List DWrite) (k4 : Nat) : Unit → Out Bool Unit
  | () => bif l_eqWrite (p_a.getD k4 d_Write) (p_b.getD k4 d_Write) then
      .cont ()
    else
      .ret false
def l_eqWriteS (p_a : List DWrite) (p_b : List DWrite) : Bool :=
  bif decide ((p_a.length : Int) = (p_b.length : Int)) then
    loopE (loopM (B_l_eqWriteS_0 p_a p_b) (p_a.length - 0) 0 ()) (fun r => r) (fun _ =>
      true)
  else
    false
def B_l_eqStringS_0 (p_a : List Str) (p_b : List Str) (k4 : Nat) : Unit → Out Bool Unit
  | () => bif (p_a.getD k4 d_Str) == (p_b.getD k4 d_Str) then
      .cont ()
    else
      .ret false
def l_eqStringS (p_a : List Str) (p_b : List Str) : Bool :=
  bif decide ((p_a.length : Int) = (p_b.length : Int)) then
    loopE (loopM (B_l_eqStringS_0 p_a p_b) (p_a.length - 0) 0 ()) (fun r => r) (fun _ =>
      true)
  else
    false
def l_eqIdx (p_a : DIdx) (p_b : DIdx) : Bool :=
  bif p_a.Name == p_b.Name then
    bif decide (p_a.Col = p_b.Col) then
      bif decide (p_a.Stage = p_b.Stage) then
        true
      else
        false
    else
      false
  else
    false
def B_l_eqIdxS_0 (p_a : List DIdx) (p_b : List DIdx) (k4 : Nat) : Unit → Out Bool Unit
  | () => bif l_eqIdx (p_a.getD k4 d_Idx) (p_b.getD k4 d_Idx) then
      .cont ()
    else
      .ret false
def l_eqIdxS (p_a : List DIdx) (p_b : List DIdx) : Bool :=
  bif decide ((p_a.length : Int) = (p_b.length : Int)) then
    loopE (loopM (B_l_eqIdxS_0 p_a p_b) (p_a.length - 0) 0 ()) (fun r => r) (fun _ =>
      true)
  else
    false
def l_eqTable (p_a : DTable) (p_b : DTable) : Bool :=
  bif p_a.Name == p_b.Name then
    bif l_eqStringS p_a.Cols p_b.Cols then
      bif l_eqIdxS p_a.Idxs p_b.Idxs then
        true
      else
        false
    else
      false
  else
    false
def B_l_eqTableS_0 (p_a : List DTable) (p_b : List DTable) (k4 : Nat) : Unit → Out Bool Unit
  | () => bif l_eqTable (p_a.getD k4 d_Table) (p_b.getD k4 d_Table) then
      .cont ()
    else
      .ret false
def l_eqTableS (p_a : List DTable) (p_b : List DTable) : Bool :=
  bif decide ((p_a.length : Int) = (p_b.length : Int)) then
    loopE (loopM (B_l_eqTableS_0 p_a p_b) (p_a.length - 0) 0 ()) (fun r => r) (fun _ =>
      true)
  else
    false
def B_l_eqIntS_0 (p_a : List Int) (p_b : List Int) (k4 : Nat) : Unit → Out Bool Unit
  | () => bif decide ((p_a.getD k4 d_Int) = (p_b.getD k4 d_Int)) then
      .cont ()
    else
      .ret false
def l_eqIntS (p_a : List Int) (p_b : List Int) : Bool :=
  bif decide ((p_a.length : Int) = (p_b.length : Int)) then
    loopE (loopM (B_l_eqIntS_0 p_a p_b) (p_a.length - 0) 0 ()) (fun r => r) (fun _ =>
      true)
  else
    false
def l_eqShift (p_a : DShift) (p_b : DShift) : Bool :=
  bif p_a.Name == p_b.Name then
    bif l_eqTableS p_a.Ways p_b.Ways then
      bif l_eqIntS p_a.At p_b.At then
        bif l_eqWriteS p_a.Store p_b.Store then
          true
        else
          false
      else
        false
    else
      false
  else
    false
def l_eqFill (p_a : DFill) (p_b : DFill) : Bool :=
  bif p_a.Last == p_b.Last then
    bif p_a.Over == p_b.Over then
      true
    else
      false
  else
    false
def l_eqWork (p_a : DWork) (p_b : DWork) : Bool :=
  bif l_eqShift p_a.Shift p_b.Shift then
    bif l_eqFill p_a.Up p_b.Up then
      bif l_eqFill p_a.Down p_b.Down then
        true
      else
        false
    else
      false
  else
    false
def l_FnExactIsFilled (p_aW : DWork) : Bool :=
  bif decide ((l_szWork p_aW 1048576) < 0) then
    true
  else
    bif ((i_IsFilled p_aW).1) == ((s_IsFilled p_aW).1) then
      bif ((i_IsFilled p_aW).2) == ((s_IsFilled p_aW).2) then
        bif l_eqWork p_aW p_aW then
          true
        else
          false
      else
        false
    else
      false
def s_IdxAt (p_t : DTable) (p_name : Str) : DIdx × Bool :=
  bif s_GoodTable p_t then
    bif decide ((s_l24Idx p_t p_name) < 0) then
      ((⟨([] : Str), 0, 0⟩ : DIdx), false)
    else
      ((p_t.Idxs.getD (((s_l24Idx p_t p_name)).toNat) d_Idx), true)
  else
    ((⟨([] : Str), 0, 0⟩ : DIdx), false)
def i_Shift_table (p_c : DShift) (p_server : Int) : DTable :=
  (p_c.Ways.getD (((p_c.At.getD ((p_server).toNat) d_Int)).toNat) d_Table)
end Go.Proofs.YtdbobbmagmcpnaaGreatDoor
