/- Scan Range: the plain forms of the values, and plain models of the functions. -/
import Derived.Test.YtdhfokkkpcelpaaGreatDoorE35
set_option linter.unusedVariables false
set_option linter.unusedSimpArgs false
namespace Go.Proofs.YtdhfokkkpcelpaaGreatDoor
open Go.RowKit Go.X
structure DIdx where
  Name : Str
  Col : Int
  Stage : Int
def d_Idx : DIdx := ⟨[], 0, 0⟩
def wf_Idx (x : DIdx) : Prop := wfS x.Name ∧ wfI x.Col ∧ wfI x.Stage
def ok_Idx (x : DIdx) : Prop := okS x.Name
theorem ok_d_Idx : ok_Idx d_Idx := ok_d_Str
def e_Idx (x : DIdx) : List Value := [.string (bs x.Name), .int .i64 x.Col, .int .i64 x.Stage]
theorem good_Idx : Gd (RF e_Idx) := RF.good fun _ => rfl
structure DTable where
  Name : Str
  Cols : List Str
  Idxs : List DIdx
def d_Table : DTable := ⟨[], [], []⟩
def wf_Table (x : DTable) : Prop := wfS x.Name ∧ (wfL wfS) x.Cols ∧ (wfL wf_Idx) x.Idxs
def ok_Table (x : DTable) : Prop := okS x.Name ∧ (okL okS) x.Cols ∧ (okL ok_Idx) x.Idxs
theorem ok_d_Table : ok_Table d_Table := ⟨ok_d_Str, okL.nil _, okL.nil _⟩
def R_Table : Rel DTable := fun w S cs x => ∃ A1 c1 A2 c2, cs = [.string (bs x.Name), .slice A1 x.Cols.length c1, .slice A2 x.Idxs.length c2] ∧ RdS w S (RF e_Str) 1 A1 x.Cols.length c1 x.Cols ∧ RdS w S (RF e_Idx) 3 A2 x.Idxs.length c2 x.Idxs
def RO_Table : RelO DTable := fun w l h cs x => ∃ A1 c1 lo1 hi1 A2 c2 lo2 hi2, cs = [.string (bs x.Name), .slice A1 x.Cols.length c1, .slice A2 x.Idxs.length c2] ∧ OwnL w lo1 hi1 9 1 (RF e_Str) A1 x.Cols.length c1 x.Cols ∧ OwnL w lo2 hi2 79 3 (RF e_Idx) A2 x.Idxs.length c2 x.Idxs ∧ (l ≤ lo1 ∧ lo1 ≤ hi1 ∧ hi1 ≤ h) ∧ (l ≤ lo2 ∧ lo2 ≤ hi2 ∧ hi2 ≤ h) ∧ (hi1 ≤ lo2 ∨ hi2 ≤ lo1)
theorem good_Table : Gd R_Table := ⟨fun ⟨A1, c1, A2, c2, he, h0, h1⟩ hk => ⟨A1, c1, A2, c2, he, RdS.keep good_Str h0 hk, RdS.keep good_Idx h1 hk⟩, fun ⟨A1, c1, A2, c2, he, h0, h1⟩ hw => ⟨A1, c1, A2, c2, he, RdS.wide good_Str h0 hw, RdS.wide good_Idx h1 hw⟩, fun ⟨A1, c1, A2, c2, he, h0, h1⟩ => by rw [he]; rfl⟩
theorem goodO_Table : GdO RO_Table R_Table := ⟨fun ⟨A1, c1, lo1, hi1, A2, c2, lo2, hi2, he, h1, h2, r0, r1, r2⟩ hk => ⟨A1, c1, lo1, hi1, A2, c2, lo2, hi2, he, OwnL.keep good_Str h1 (fun b b1 b2 b3 => hk b (by omega) (by omega) b3), OwnL.keep good_Idx h2 (fun b b1 b2 b3 => hk b (by omega) (by omega) b3), r0, r1, r2⟩, fun ⟨A1, c1, lo1, hi1, A2, c2, lo2, hi2, he, h1, h2, r0, r1, r2⟩ => by rw [he]; rfl, fun ⟨A1, c1, lo1, hi1, A2, c2, lo2, hi2, he, h1, h2, r0, r1, r2⟩ => ⟨A1, c1, A2, c2, he, RdS.wide good_Str (OwnL.rdI good_Str h1) (fun b hb _ => ⟨by have := hb.1; omega, by have := hb.2; omega⟩), RdS.wide good_Idx (OwnL.rdI good_Idx h2) (fun b hb _ => ⟨by have := hb.1; omega, by have := hb.2; omega⟩)⟩⟩
theorem mkO_Table {w : World} {l h : Nat} {z0 : Str} {lo1 hi1 n1 c1 : Nat} {A1 : Option Addr} {y1 : List Str} {lo2 hi2 n2 c2 : Nat} {A2 : Option Addr} {y2 : List DIdx} (h1 : OwnL w lo1 hi1 9 1 (RF e_Str) A1 n1 c1 y1) (h2 : OwnL w lo2 hi2 79 3 (RF e_Idx) A2 n2 c2 y2) (r0 : (l ≤ lo1 ∧ lo1 ≤ hi1 ∧ hi1 ≤ h)) (r1 : (l ≤ lo2 ∧ lo2 ≤ hi2 ∧ hi2 ≤ h)) (r2 : (hi1 ≤ lo2 ∨ hi2 ≤ lo1)) : RO_Table w l h [.string (bs z0), .slice A1 n1 c1, .slice A2 n2 c2] ⟨z0, y1, y2⟩ := by
  obtain rfl := h1.1; obtain rfl := h2.1
  exact ⟨A1, c1, lo1, hi1, A2, c2, lo2, hi2, rfl, h1, h2, r0, r1, r2⟩
structure DWrite where
  Key : Str
  Val : Str
  Gone : Bool
def d_Write : DWrite := ⟨[], [], false⟩
def wf_Write (x : DWrite) : Prop := wfS x.Key ∧ wfS x.Val
def ok_Write (x : DWrite) : Prop := okS x.Key ∧ okS x.Val
theorem ok_d_Write : ok_Write d_Write := ⟨ok_d_Str, ok_d_Str⟩
def e_Write (x : DWrite) : List Value := [.string (bs x.Key), .string (bs x.Val), .bool x.Gone]
theorem good_Write : Gd (RF e_Write) := RF.good fun _ => rfl
structure DRow where
  Vals : List Str
def d_Row : DRow := ⟨[]⟩
def wf_Row (x : DRow) : Prop := (wfL wfS) x.Vals
def ok_Row (x : DRow) : Prop := (okL okS) x.Vals
theorem ok_d_Row : ok_Row d_Row := okL.nil _
def R_Row : Rel DRow := fun w S cs x => ∃ A1 c1, cs = [.slice A1 x.Vals.length c1] ∧ RdS w S (RF e_Str) 1 A1 x.Vals.length c1 x.Vals
def RO_Row : RelO DRow := fun w l h cs x => ∃ A1 c1 lo1 hi1, cs = [.slice A1 x.Vals.length c1] ∧ OwnL w lo1 hi1 9 1 (RF e_Str) A1 x.Vals.length c1 x.Vals ∧ (l ≤ lo1 ∧ lo1 ≤ hi1 ∧ hi1 ≤ h)
theorem good_Row : Gd R_Row := ⟨fun ⟨A1, c1, he, h0⟩ hk => ⟨A1, c1, he, RdS.keep good_Str h0 hk⟩, fun ⟨A1, c1, he, h0⟩ hw => ⟨A1, c1, he, RdS.wide good_Str h0 hw⟩, fun ⟨A1, c1, he, h0⟩ => by rw [he]; rfl⟩
theorem goodO_Row : GdO RO_Row R_Row := ⟨fun ⟨A1, c1, lo1, hi1, he, h1, r0⟩ hk => ⟨A1, c1, lo1, hi1, he, OwnL.keep good_Str h1 (fun b b1 b2 b3 => hk b (by omega) (by omega) b3), r0⟩, fun ⟨A1, c1, lo1, hi1, he, h1, r0⟩ => by rw [he]; rfl, fun ⟨A1, c1, lo1, hi1, he, h1, r0⟩ => ⟨A1, c1, he, RdS.wide good_Str (OwnL.rdI good_Str h1) (fun b hb _ => ⟨by have := hb.1; omega, by have := hb.2; omega⟩)⟩⟩
theorem mkO_Row {w : World} {l h : Nat} {lo1 hi1 n1 c1 : Nat} {A1 : Option Addr} {y1 : List Str} (h1 : OwnL w lo1 hi1 9 1 (RF e_Str) A1 n1 c1 y1) (r0 : (l ≤ lo1 ∧ lo1 ≤ hi1 ∧ hi1 ≤ h)) : RO_Row w l h [.slice A1 n1 c1] ⟨y1⟩ := by
  obtain rfl := h1.1
  exact ⟨A1, c1, lo1, hi1, rfl, h1, r0⟩
structure DBoundsError where
  x : Int
  y : Int
  signed : Bool
  code : Int
def d_BoundsError : DBoundsError := ⟨0, 0, false, 0⟩
def wf_BoundsError (x : DBoundsError) : Prop := wfI x.x ∧ wfI x.y ∧ wfI x.code
def e_BoundsError (x : DBoundsError) : List Value := [.int .i64 x.x, .int .i64 x.y, .bool x.signed, .int .u8 x.code]
theorem good_BoundsError : Gd (RF e_BoundsError) := RF.good fun _ => rfl
structure DErrorAddressString where
  msg : Str
  addr : Int
def d_ErrorAddressString : DErrorAddressString := ⟨[], 0⟩
def wf_ErrorAddressString (x : DErrorAddressString) : Prop := wfS x.msg ∧ wfI x.addr
def ok_ErrorAddressString (x : DErrorAddressString) : Prop := okS x.msg
theorem ok_d_ErrorAddressString : ok_ErrorAddressString d_ErrorAddressString := ok_d_Str
def e_ErrorAddressString (x : DErrorAddressString) : List Value := [.string (bs x.msg), .int .u64 x.addr]
theorem good_ErrorAddressString : Gd (RF e_ErrorAddressString) := RF.good fun _ => rfl
structure DAcceptRange where
  lo : Int
  hi : Int
def d_AcceptRange : DAcceptRange := ⟨0, 0⟩
def wf_AcceptRange (x : DAcceptRange) : Prop := wfI x.lo ∧ wfI x.hi
def e_AcceptRange (x : DAcceptRange) : List Value := [.int .u8 x.lo, .int .u8 x.hi]
theorem good_AcceptRange : Gd (RF e_AcceptRange) := RF.good fun _ => rfl
def B_l_szStringS_0 (p_a : List Str) (p_left : Int) (k3 : Nat) : Int → Out Int Int
  | (x4) => bif decide ((IntKind.wrap .i64 (x4 - ((p_a.getD k3 d_Str).length : Int))) < 0) then
      .ret (-1)
    else
      .cont (IntKind.wrap .i64 (x4 - ((p_a.getD k3 d_Str).length : Int)))
def l_szStringS (p_a : List Str) (p_left : Int) : Int :=
  bif decide ((IntKind.wrap .i64 (p_left - (p_a.length : Int))) < 0) then
    -1
  else
    loopE (loopM (B_l_szStringS_0 p_a p_left) (p_a.length - 0) 0 (IntKind.wrap .i64 (p_left - (p_a.length : Int)))) (fun r => r) (fun x4 =>
      x4)
def l_szIdx (p_a : DIdx) (p_left : Int) : Int :=
  bif decide ((IntKind.wrap .i64 (p_left - (p_a.Name.length : Int))) < 0) then
    -1
  else
    IntKind.wrap .i64 (p_left - (p_a.Name.length : Int))
def B_l_szIdxS_0 (p_a : List DIdx) (p_left : Int) (k3 : Nat) : Int → Out Int Int
  | (x4) => bif decide ((l_szIdx (p_a.getD k3 d_Idx) x4) < 0) then
      .ret (-1)
    else
      .cont ((l_szIdx (p_a.getD k3 d_Idx) x4))
def l_szIdxS (p_a : List DIdx) (p_left : Int) : Int :=
  bif decide ((IntKind.wrap .i64 (p_left - (p_a.length : Int))) < 0) then
    -1
  else
    loopE (loopM (B_l_szIdxS_0 p_a p_left) (p_a.length - 0) 0 (IntKind.wrap .i64 (p_left - (p_a.length : Int)))) (fun r => r) (fun x4 =>
      x4)
def l_szTable (p_a : DTable) (p_left : Int) : Int :=
  bif decide ((IntKind.wrap .i64 (p_left - (p_a.Name.length : Int))) < 0) then
    -1
  else
    bif decide ((l_szStringS p_a.Cols (IntKind.wrap .i64 (p_left - (p_a.Name.length : Int)))) < 0) then
      -1
    else
      bif decide ((l_szIdxS p_a.Idxs (l_szStringS p_a.Cols (IntKind.wrap .i64 (p_left - (p_a.Name.length : Int))))) < 0) then
        -1
      else
        (l_szIdxS p_a.Idxs (l_szStringS p_a.Cols (IntKind.wrap .i64 (p_left - (p_a.Name.length : Int)))))
def l_szWrite (p_a : DWrite) (p_left : Int) : Int :=
  bif decide ((IntKind.wrap .i64 (p_left - (p_a.Key.length : Int))) < 0) then
    -1
  else
    bif decide ((IntKind.wrap .i64 ((IntKind.wrap .i64 (p_left - (p_a.Key.length : Int))) - (p_a.Val.length : Int))) < 0) then
      -1
    else
      IntKind.wrap .i64 ((IntKind.wrap .i64 (p_left - (p_a.Key.length : Int))) - (p_a.Val.length : Int))
def B_l_szWriteS_0 (p_a : List DWrite) (p_left : Int) (k3 : Nat) : Int → Out Int Int
  | (x4) => bif decide ((l_szWrite (p_a.getD k3 d_Write) x4) < 0) then
      .ret (-1)
    else
      .cont ((l_szWrite (p_a.getD k3 d_Write) x4))
def l_szWriteS (p_a : List DWrite) (p_left : Int) : Int :=
  bif decide ((IntKind.wrap .i64 (p_left - (p_a.length : Int))) < 0) then
    -1
  else
    loopE (loopM (B_l_szWriteS_0 p_a p_left) (p_a.length - 0) 0 (IntKind.wrap .i64 (p_left - (p_a.length : Int)))) (fun r => r) (fun x4 =>
      x4)
def s_l1In (p_n : Int) (p_lo : Int) (p_hi : Int) : Bool :=
  bif decide (p_lo ≤ p_n) then
    decide (p_n ≤ p_hi)
  else
    false
def B_s_l24Letters_0 (p_s : Str) (p_most : Int) (k2 : Nat) : Unit → Out Bool Unit
  | () => bif decide (((p_s.getD k2 0).toNat : Int) < 97) then
      .ret false
    else
      bif decide (122 < ((p_s.getD k2 0).toNat : Int)) then
        .ret false
      else
        .cont ()
def s_l24Letters (p_s : Str) (p_most : Int) : Bool :=
  loopE (loopM (B_s_l24Letters_0 p_s p_most) (p_s.length - 0) 0 ()) (fun r => r) (fun _ =>
    bif decide (1 ≤ (p_s.length : Int)) then
      decide ((p_s.length : Int) ≤ p_most)
    else
      false)
def B_s_l24At_0 (p_l : List Str) (p_s : Str) (k4 : Nat) : Unit → Out Int Unit
  | () => bif (p_l.getD k4 d_Str) == p_s then
      .ret (k4 : Int)
    else
      .cont ()
def s_l24At (p_l : List Str) (p_s : Str) : Int :=
  loopE (loopM (B_s_l24At_0 p_l p_s) (p_l.length - 0) 0 ()) (fun r => r) (fun _ =>
    -1)
def B_s_l24Cols_0 (p_l : List Str) (k3 : Nat) : Unit → Out Bool Unit
  | () => bif s_l24Letters (p_l.getD k3 d_Str) 3 then
      bif decide (0 ≤ (s_l24At (p_l.take k3) (p_l.getD k3 d_Str))) then
        .ret false
      else
        .cont ()
    else
      .ret false
def s_l24Cols (p_l : List Str) : Bool :=
  loopE (loopM (B_s_l24Cols_0 p_l) (p_l.length - 0) 0 ()) (fun r => r) (fun _ =>
    (s_l1In (p_l.length : Int) 2 4))
def B_s_GoodTable_0 (p_0 : DTable) (k19 : Nat) : Unit → Out Bool Unit
  | () => bif s_l24Letters ((p_0.Idxs.getD k19 d_Idx).Name) 1 then
      bif s_l1In ((p_0.Idxs.getD k19 d_Idx).Col) 1 (IntKind.wrap .i64 ((p_0.Cols.length : Int) - 1)) then
        bif s_l1In ((p_0.Idxs.getD k19 d_Idx).Stage) 0 3 then
          bif decide (0 < (k19 : Int)) then
            bif sLt ((p_0.Idxs.getD ((IntKind.wrap .i64 ((k19 : Int) - 1)).toNat) d_Idx).Name) ((p_0.Idxs.getD k19 d_Idx).Name) then
              .cont ()
            else
              .ret false
          else
            .cont ()
        else
          .ret false
      else
        .ret false
    else
      .ret false
def s_GoodTable (p_0 : DTable) : Bool :=
  bif s_l24Letters p_0.Name 1 then
    bif s_l24Cols p_0.Cols then
      bif decide (3 < (p_0.Idxs.length : Int)) then
        false
      else
        loopE (loopM (B_s_GoodTable_0 p_0) (p_0.Idxs.length - 0) 0 ()) (fun r => r) (fun _ =>
          true)
    else
      false
  else
    false
def B_s_l3Bytes_1 (p_s : Str) (p_more : Str) (k3 : Nat) (k6 : Nat) : Bool → Out Bool Bool
  | (x7) => bif x7 then
      .cont (true)
    else
      .cont (decide (((p_s.getD k3 0).toNat : Int) = ((p_more.getD k6 0).toNat : Int)))
def B_s_l3Bytes_0 (p_s : Str) (p_more : Str) (k3 : Nat) : Unit → Out Bool Unit
  | () => bif decide (97 ≤ ((p_s.getD k3 0).toNat : Int)) then
      bif decide (((p_s.getD k3 0).toNat : Int) ≤ 122) then
        loopE (loopM (B_s_l3Bytes_1 p_s p_more k3) (p_more.length - 0) 0 (true)) (fun r => Out.ret r) (fun x7 =>
          bif x7 then
            .cont ()
          else
            .ret false)
      else
        bif decide (48 ≤ ((p_s.getD k3 0).toNat : Int)) then
          loopE (loopM (B_s_l3Bytes_1 p_s p_more k3) (p_more.length - 0) 0 (decide (((p_s.getD k3 0).toNat : Int) ≤ 57))) (fun r => Out.ret r) (fun x12 =>
            bif x12 then
              .cont ()
            else
              .ret false)
        else
          loopE (loopM (B_s_l3Bytes_1 p_s p_more k3) (p_more.length - 0) 0 (false)) (fun r => Out.ret r) (fun x15 =>
            bif x15 then
              .cont ()
            else
              .ret false)
    else
      bif decide (48 ≤ ((p_s.getD k3 0).toNat : Int)) then
        loopE (loopM (B_s_l3Bytes_1 p_s p_more k3) (p_more.length - 0) 0 (decide (((p_s.getD k3 0).toNat : Int) ≤ 57))) (fun r => Out.ret r) (fun x19 =>
          bif x19 then
            .cont ()
          else
            .ret false)
      else
        loopE (loopM (B_s_l3Bytes_1 p_s p_more k3) (p_more.length - 0) 0 (false)) (fun r => Out.ret r) (fun x22 =>
          bif x22 then
            .cont ()
          else
            .ret false)
def s_l3Bytes (p_s : Str) (p_more : Str) : Bool :=
  loopE (loopM (B_s_l3Bytes_0 p_s p_more) (p_s.length - 0) 0 ()) (fun r => r) (fun _ =>
    true)
def s_l3Key (p_s : Str) : Bool :=
  bif s_l1In (p_s.length : Int) 1 12 then
    (s_l3Bytes p_s ([46, 47] : Str))
  else
    false
def s_l3Val (p_s : Str) : Bool :=
  bif decide ((p_s.length : Int) ≤ 24) then
    (s_l3Bytes p_s ([46, 45, 44, 95] : Str))
  else
    false
def s_l3Write (p_key : Str) (p_val : Str) (p_gone : Bool) : Bool :=
  bif s_l3Key p_key then
    bif s_l3Val p_val then
      bif p_gone then
        p_val == ([] : Str)
      else
        true
    else
      false
  else
    false
def B_s_l3Writes_0 (p_l : List DWrite) (k3 : Nat) : Unit → Out Bool Unit
  | () => bif s_l3Write ((p_l.getD k3 d_Write).Key) ((p_l.getD k3 d_Write).Val) ((p_l.getD k3 d_Write).Gone) then
      bif decide (0 < (k3 : Int)) then
        bif sLt ((p_l.getD ((IntKind.wrap .i64 ((k3 : Int) - 1)).toNat) d_Write).Key) ((p_l.getD k3 d_Write).Key) then
          .cont ()
        else
          .ret false
      else
        .cont ()
    else
      .ret false
def s_l3Writes (p_l : List DWrite) : Bool :=
  loopE (loopM (B_s_l3Writes_0 p_l) (p_l.length - 0) 0 ()) (fun r => r) (fun _ =>
    decide ((p_l.length : Int) ≤ 24))
def B_s_l5Rows_0 (p_l : List DWrite) (k3 : Nat) : Unit → Out Bool Unit
  | () => bif (p_l.getD k3 d_Write).Gone then
      .ret false
    else
      .cont ()
def s_l5Rows (p_l : List DWrite) : Bool :=
  loopE (loopM (B_s_l5Rows_0 p_l) (p_l.length - 0) 0 ()) (fun r => r) (fun _ =>
    (s_l3Writes p_l))
def s_l25Field (p_s : Str) : Bool :=
  bif s_l1In (p_s.length : Int) 1 3 then
    (s_l3Bytes p_s ([] : Str))
  else
    false
def B_s_l1Split_0 (p_s : Str) (p_b : Int) (k2 : Nat) : (List Str) × Int → Out (List Str) ((List Str) × Int)
  | (x20, x24) => bif decide (((p_s.getD k2 0).toNat : Int) = p_b) then
      .cont ((x20 ++ ([((p_s.take k2).drop ((x24).toNat))] : List Str)), ((k2 + 1 : Nat) : Int))
    else
      .cont (x20, x24)
def s_l1Split (p_s : Str) (p_b : Int) : List Str :=
  loopE (loopM (B_s_l1Split_0 p_s p_b) (p_s.length - 0) 0 (([] : List Str), 0)) (fun r => r) (fun (x20, x24) =>
    (x20 ++ ([(p_s.drop ((x24).toNat))] : List Str)))
def B_s_l25Good_0 (p_t : DTable) (p_r : DRow) (k18 : Nat) : Unit → Out Bool Unit
  | () => bif s_l25Field (p_r.Vals.getD k18 d_Str) then
      .cont ()
    else
      .ret false
def s_l25Good (p_t : DTable) (p_r : DRow) : Bool :=
  loopE (loopM (B_s_l25Good_0 p_t p_r) (p_r.Vals.length - 0) 0 ()) (fun r => r) (fun _ =>
    decide ((p_r.Vals.length : Int) = (p_t.Cols.length : Int)))
def B_s_l24Join_0 (p_l : List Str) (p_by : Str) (k4 : Nat) : Str → Out Str Str
  | (x12) => bif decide (0 < (k4 : Int)) then
      .cont ((x12 ++ p_by) ++ (p_l.getD k4 d_Str))
    else
      .cont (x12 ++ (p_l.getD k4 d_Str))
def s_l24Join (p_l : List Str) (p_by : Str) : Str :=
  loopE (loopM (B_s_l24Join_0 p_l p_by) (p_l.length - 0) 0 (([] : Str))) (fun r => r) (fun x12 =>
    x12)
def s_l25Write (p_t : DTable) (p_r : DRow) : DWrite :=
  (⟨(p_t.Name ++ ([47] : Str)) ++ (p_r.Vals.getD 0 d_Str), (s_l24Join (p_r.Vals.drop 1) ([44] : Str)), false⟩ : DWrite)
def s_l25Read (p_t : DTable) (p_w : DWrite) : DRow × Bool :=
  bif decide ((p_w.Key.length : Int) < 3) then
    ((⟨[]⟩ : DRow), false)
  else
    bif s_l25Good p_t (⟨(([(p_w.Key.drop 2)] : List Str) ++ (s_l1Split p_w.Val 44))⟩ : DRow) then
      ((⟨(([(p_w.Key.drop 2)] : List Str) ++ (s_l1Split p_w.Val 44))⟩ : DRow), ((((s_l25Write p_t (⟨(([(p_w.Key.drop 2)] : List Str) ++ (s_l1Split p_w.Val 44))⟩ : DRow)).Key) == p_w.Key) && ((((s_l25Write p_t (⟨(([(p_w.Key.drop 2)] : List Str) ++ (s_l1Split p_w.Val 44))⟩ : DRow)).Val) == p_w.Val) && (((s_l25Write p_t (⟨(([(p_w.Key.drop 2)] : List Str) ++ (s_l1Split p_w.Val 44))⟩ : DRow)).Gone) == p_w.Gone))))
    else
      ((⟨(([(p_w.Key.drop 2)] : List Str) ++ (s_l1Split p_w.Val 44))⟩ : DRow), false)
def B_s_l25Rows_0 (p_t : DTable) (p_store : List DWrite) (k12 : Nat) : (List DRow) → Out (List DRow) (List DRow)
  | (x94) => bif (s_l25Read p_t (p_store.getD k12 d_Write)).2 then
      .cont ((x94 ++ ([(s_l25Read p_t (p_store.getD k12 d_Write)).1] : List DRow)))
    else
      .cont (x94)
def s_l25Rows (p_t : DTable) (p_store : List DWrite) : List DRow :=
  loopE (loopM (B_s_l25Rows_0 p_t p_store) (p_store.length - 0) 0 (([] : List DRow))) (fun r => r) (fun x94 =>
    x94)
def s_l30Less (p_a : DRow) (p_b : DRow) (p_col : Int) : Bool :=
  bif (p_a.Vals.getD ((p_col).toNat) d_Str) == (p_b.Vals.getD ((p_col).toNat) d_Str) then
    sLt (p_a.Vals.getD 0 d_Str) (p_b.Vals.getD 0 d_Str)
  else
    sLt (p_a.Vals.getD ((p_col).toNat) d_Str) (p_b.Vals.getD ((p_col).toNat) d_Str)
def B_s_l30Scan_1 (p_0 : DTable) (p_1 : List DWrite) (p_2 : Int) (p_3 : Str) (p_4 : Str) (k20 : Nat) (x158 : List DRow) : Int × (List DRow) → Out (List DRow) (Int × (List DRow))
  | (x207, x208) => bif decide (0 < x207) then
      bif s_l30Less ((s_l25Rows p_0 p_1).getD k20 d_Row) (x208.getD ((IntKind.wrap .i64 (x207 - 1)).toNat) d_Row) p_2 then
        .cont (IntKind.wrap .i64 (x207 - 1), (x208.set ((x207).toNat) (x208.getD ((IntKind.wrap .i64 (x207 - 1)).toNat) d_Row)))
      else
        .brk (x207, x208)
    else
      .brk (x207, x208)
def B_s_l30Scan_0 (p_0 : DTable) (p_1 : List DWrite) (p_2 : Int) (p_3 : Str) (p_4 : Str) (k20 : Nat) : (List DRow) → Out (List DRow) (List DRow)
  | (x158) => bif sLt ((((s_l25Rows p_0 p_1).getD k20 d_Row).Vals).getD ((p_2).toNat) d_Str) p_3 then
      .cont (x158)
    else
      bif sLe ((((s_l25Rows p_0 p_1).getD k20 d_Row).Vals).getD ((p_2).toNat) d_Str) p_4 then
        loopE (loopW (B_s_l30Scan_1 p_0 p_1 p_2 p_3 p_4 k20 x158) ((((x158.length : Int)).toNat) + 1) ((x158.length : Int), (x158 ++ ([((s_l25Rows p_0 p_1).getD k20 d_Row)] : List DRow)))) (fun r => Out.ret r) (fun (x207, x208) =>
          .cont ((x208.set ((x207).toNat) ((s_l25Rows p_0 p_1).getD k20 d_Row))))
      else
        .cont (x158)
def s_l30Scan (p_0 : DTable) (p_1 : List DWrite) (p_2 : Int) (p_3 : Str) (p_4 : Str) : List DRow :=
  loopE (loopM (B_s_l30Scan_0 p_0 p_1 p_2 p_3 p_4) ((s_l25Rows p_0 p_1).length - 0) 0 (([] : List DRow))) (fun r => r) (fun x158 =>
    x158)
def s_ScanRange (p_t : DTable) (p_store : List DWrite) (p_col : Int) (p_low : Str) (p_high : Str) : (List DRow) × Bool :=
  bif s_GoodTable p_t then
    bif s_l5Rows p_store then
      bif s_l1In p_col 1 (IntKind.wrap .i64 ((p_t.Cols.length : Int) - 1)) then
        bif s_l25Field p_low then
          bif s_l25Field p_high then
            ((s_l30Scan p_t p_store p_col p_low p_high), true)
          else
            (([] : List DRow), false)
        else
          (([] : List DRow), false)
      else
        (([] : List DRow), false)
    else
      (([] : List DRow), false)
  else
    (([] : List DRow), false)
def B_l_toStringS_0 (p_a : List Str) (k10 : Nat) : (List Str) → Out (List Str) (List Str)
  | (x18) => .cont ((x18.set k10 (p_a.getD k10 d_Str)))
def l_toStringS (p_a : List Str) : List Str :=
  loopE (loopM (B_l_toStringS_0 p_a) (p_a.length - 0) 0 ((List.replicate p_a.length d_Str))) (fun r => r) (fun x18 =>
    x18)
def l_toIdx (p_a : DIdx) : DIdx :=
  p_a
def B_l_toIdxS_0 (p_a : List DIdx) (k10 : Nat) : (List DIdx) → Out (List DIdx) (List DIdx)
  | (x21) => .cont ((x21.set k10 (p_a.getD k10 d_Idx)))
def l_toIdxS (p_a : List DIdx) : List DIdx :=
  loopE (loopM (B_l_toIdxS_0 p_a) (p_a.length - 0) 0 ((List.replicate p_a.length d_Idx))) (fun r => r) (fun x21 =>
    x21)
def l_toTable (p_a : DTable) : DTable :=
  p_a
def l_toWrite (p_a : DWrite) : DWrite :=
  p_a
def B_l_toWriteS_0 (p_a : List DWrite) (k10 : Nat) : (List DWrite) → Out (List DWrite) (List DWrite)
  | (x21) => .cont ((x21.set k10 (p_a.getD k10 d_Write)))
def l_toWriteS (p_a : List DWrite) : List DWrite :=
  loopE (loopM (B_l_toWriteS_0 p_a) (p_a.length - 0) 0 ((List.replicate p_a.length d_Write))) (fun r => r) (fun x21 =>
    x21)
def i_within (p_n : Int) (p_low : Int) (p_high : Int) : Bool :=
  bif decide (p_low ≤ p_n) then
    decide (p_n ≤ p_high)
  else
    false
def B_i_areLetters_0 (p_s : Str) (p_most : Int) (k2 : Nat) : Unit → Out Bool Unit
  | () => bif decide (((p_s.getD k2 0).toNat : Int) < 97) then
      .ret false
    else
      bif decide (122 < ((p_s.getD k2 0).toNat : Int)) then
        .ret false
      else
        .cont ()
def i_areLetters (p_s : Str) (p_most : Int) : Bool :=
  loopE (loopM (B_i_areLetters_0 p_s p_most) (p_s.length - 0) 0 ()) (fun r => r) (fun _ =>
    (i_within (p_s.length : Int) 1 p_most))
def B_g_slices_Index_string_0 (p_s : List Str) (p_v : Str) (k4 : Nat) : Unit → Out Int Unit
  | () => bif p_v == (p_s.getD k4 d_Str) then
      .ret (k4 : Int)
    else
      .cont ()
def g_slices_Index_string (p_s : List Str) (p_v : Str) : Int :=
  loopE (loopM (B_g_slices_Index_string_0 p_s p_v) (p_s.length - 0) 0 ()) (fun r => r) (fun _ =>
    -1)
def g_slices_Contains_string (p_s : List Str) (p_v : Str) : Bool :=
  decide (0 ≤ (g_slices_Index_string p_s p_v))
def i_isStage (p_stage : Int) : Bool :=
  (i_within p_stage 0 3)
def B_i_GoodTable_0 (p_0 : DTable) (k19 : Nat) : Unit → Out Bool Unit
  | () => bif i_areLetters (p_0.Cols.getD k19 d_Str) 3 then
      bif g_slices_Contains_string (p_0.Cols.take k19) (p_0.Cols.getD k19 d_Str) then
        .ret false
      else
        .cont ()
    else
      .ret false
def B_i_GoodTable_1 (p_0 : DTable) (k35 : Nat) : Unit → Out Bool Unit
  | () => bif i_areLetters ((p_0.Idxs.getD k35 d_Idx).Name) 1 then
      bif i_within ((p_0.Idxs.getD k35 d_Idx).Col) 1 (IntKind.wrap .i64 ((p_0.Cols.length : Int) - 1)) then
        bif i_isStage ((p_0.Idxs.getD k35 d_Idx).Stage) then
          bif decide (0 < (k35 : Int)) then
            bif sLe ((p_0.Idxs.getD k35 d_Idx).Name) ((p_0.Idxs.getD ((IntKind.wrap .i64 ((k35 : Int) - 1)).toNat) d_Idx).Name) then
              .ret false
            else
              .cont ()
          else
            .cont ()
        else
          .ret false
      else
        .ret false
    else
      .ret false
def i_GoodTable (p_0 : DTable) : Bool :=
  bif i_areLetters p_0.Name 1 then
    bif i_within (p_0.Cols.length : Int) 2 4 then
      bif decide (3 < (p_0.Idxs.length : Int)) then
        false
      else
        loopE (loopM (B_i_GoodTable_0 p_0) (p_0.Cols.length - 0) 0 ()) (fun r => r) (fun _ =>
          loopE (loopM (B_i_GoodTable_1 p_0) (p_0.Idxs.length - 0) 0 ()) (fun r => r) (fun _ =>
            true))
    else
      false
  else
    false
def B_g_slices_IndexFunc_Write_0 (p_s : List DWrite) (p_f : DWrite → Bool) (k7 : Nat) : Unit → Out Int Unit
  | () => bif p_f (p_s.getD k7 d_Write) then
      .ret (k7 : Int)
    else
      .cont ()
def g_slices_IndexFunc_Write (p_s : List DWrite) (p_f : DWrite → Bool) : Int :=
  loopE (loopM (B_g_slices_IndexFunc_Write_0 p_s p_f) (p_s.length - 0) 0 ()) (fun r => r) (fun _ =>
    -1)
def g_slices_ContainsFunc_Write (p_s : List DWrite) (p_f : DWrite → Bool) : Bool :=
  decide (0 ≤ (g_slices_IndexFunc_Write p_s p_f))
def i_isLowerOrDigit (p_b : Int) : Bool :=
  bif decide (97 ≤ p_b) then
    bif decide (p_b ≤ 122) then
      true
    else
      bif decide (48 ≤ p_b) then
        decide (p_b ≤ 57)
      else
        false
  else
    bif decide (48 ≤ p_b) then
      decide (p_b ≤ 57)
    else
      false
def g_internal_stringslite_IndexByte (p_s : Str) (p_c : Int) : Int :=
  idxB p_s p_c
def g_strings_IndexByte (p_s : Str) (p_c : Int) : Int :=
  (g_internal_stringslite_IndexByte p_s p_c)
def B_i_hasBytes_0 (p_s : Str) (p_others : Str) (k3 : Nat) : Unit → Out Bool Unit
  | () => bif i_isLowerOrDigit ((p_s.getD k3 0).toNat : Int) then
      .cont ()
    else
      bif decide ((g_strings_IndexByte p_others ((p_s.getD k3 0).toNat : Int)) < 0) then
        .ret false
      else
        .cont ()
def i_hasBytes (p_s : Str) (p_others : Str) : Bool :=
  loopE (loopM (B_i_hasBytes_0 p_s p_others) (p_s.length - 0) 0 ()) (fun r => r) (fun _ =>
    true)
def i_GoodKey (p_s : Str) : Bool :=
  bif i_within (p_s.length : Int) 1 12 then
    (i_hasBytes p_s ([46, 47] : Str))
  else
    false
def B_i_areRising_0 (p_keys : List Str) (k3 : Nat) : Unit → Out Bool Unit
  | () => bif i_GoodKey (p_keys.getD k3 d_Str) then
      bif decide (0 < (k3 : Int)) then
        bif sLe (p_keys.getD k3 d_Str) (p_keys.getD ((IntKind.wrap .i64 ((k3 : Int) - 1)).toNat) d_Str) then
          .ret false
        else
          .cont ()
      else
        .cont ()
    else
      .ret false
def i_areRising (p_keys : List Str) : Bool :=
  loopE (loopM (B_i_areRising_0 p_keys) (p_keys.length - 0) 0 ()) (fun r => r) (fun _ =>
    true)
def B_i_writeKeys_0 (p_l : List DWrite) (k10 : Nat) : (List Str) → Out (List Str) (List Str)
  | (x60) => .cont ((x60 ++ ([(p_l.getD k10 d_Write).Key] : List Str)))
def i_writeKeys (p_l : List DWrite) : List Str :=
  loopE (loopM (B_i_writeKeys_0 p_l) (p_l.length - 0) 0 (([] : List Str))) (fun r => r) (fun x60 =>
    x60)
def i_GoodVal (p_s : Str) : Bool :=
  bif decide ((p_s.length : Int) ≤ 24) then
    (i_hasBytes p_s ([46, 45, 44, 95] : Str))
  else
    false
def i_isStored (p_val : Str) (p_gone : Bool) : Bool :=
  bif i_GoodVal p_val then
    bif p_gone then
      !(!(p_val == ([] : Str)))
    else
      !false
  else
    false
def i_GoodWrites_c1 (p_w : DWrite) : Bool :=
  !(i_isStored p_w.Val p_w.Gone)
def i_GoodWrites (p_l : List DWrite) : Bool :=
  bif decide ((p_l.length : Int) ≤ 24) then
    bif i_areRising (i_writeKeys p_l) then
      !(g_slices_ContainsFunc_Write p_l (fun y0 => i_GoodWrites_c1 y0))
    else
      false
  else
    false
def i_isRows_c1 (p_w : DWrite) : Bool :=
  p_w.Gone
def i_isRows (p_rows : List DWrite) : Bool :=
  bif i_GoodWrites p_rows then
    !(g_slices_ContainsFunc_Write p_rows (fun y0 => i_isRows_c1 y0))
  else
    false
def i_isField (p_s : Str) : Bool :=
  bif i_within (p_s.length : Int) 1 3 then
    (i_hasBytes p_s ([] : Str))
  else
    false
def B_g_slices_IndexFunc_Row_0 (p_s : List DRow) (p_f : DRow → Bool) (k8 : Nat) : Unit → Out Int Unit
  | () => bif p_f (p_s.getD k8 d_Row) then
      .ret (k8 : Int)
    else
      .cont ()
def g_slices_IndexFunc_Row (p_s : List DRow) (p_f : DRow → Bool) : Int :=
  loopE (loopM (B_g_slices_IndexFunc_Row_0 p_s p_f) (p_s.length - 0) 0 ()) (fun r => r) (fun _ =>
    -1)
def g_slices_DeleteFunc_Row (p_s : List DRow) (p_f : DRow → Bool) : List DRow := p_s.filter fun y => !p_f y
def g_internal_stringslite_HasPrefix (p_s : Str) (p_prefix : Str) : Bool :=
  bif decide ((p_prefix.length : Int) ≤ (p_s.length : Int)) then
    (p_s.take p_prefix.length) == p_prefix
  else
    false
def g_internal_stringslite_CutPrefix (p_s : Str) (p_prefix : Str) : Str × Bool :=
  bif g_internal_stringslite_HasPrefix p_s p_prefix then
    ((p_s.drop p_prefix.length), true)
  else
    (p_s, false)
def g_strings_CutPrefix (p_s : Str) (p_prefix : Str) : Str × Bool :=
  ((g_internal_stringslite_CutPrefix p_s p_prefix).1, (g_internal_stringslite_CutPrefix p_s p_prefix).2)
def g_strings_Split (p_s : Str) (p_sep : Str) : List Str :=
  sp (p_sep.headD 0) p_s
def B_g_slices_IndexFunc_string_0 (p_s : List Str) (p_f : Str → Bool) (k7 : Nat) : Unit → Out Int Unit
  | () => bif p_f (p_s.getD k7 d_Str) then
      .ret (k7 : Int)
    else
      .cont ()
def g_slices_IndexFunc_string (p_s : List Str) (p_f : Str → Bool) : Int :=
  loopE (loopM (B_g_slices_IndexFunc_string_0 p_s p_f) (p_s.length - 0) 0 ()) (fun r => r) (fun _ =>
    -1)
def g_slices_ContainsFunc_string (p_s : List Str) (p_f : Str → Bool) : Bool :=
  decide (0 ≤ (g_slices_IndexFunc_string p_s p_f))
def i_Table_isRow_c1 (p_s : Str) : Bool :=
  !(i_isField p_s)
def i_Table_isRow (p_t : DTable) (p_r : DRow) : Bool :=
  bif decide ((p_r.Vals.length : Int) = (p_t.Cols.length : Int)) then
    !(g_slices_ContainsFunc_string p_r.Vals (fun y0 => i_Table_isRow_c1 y0))
  else
    false
def g_strings_Join (p_elems : List Str) (p_sep : Str) : Str :=
  p_sep.intercalate p_elems
def i_Table_rowWrite (p_t : DTable) (p_r : DRow) : DWrite :=
  (⟨(p_t.Name ++ ([47] : Str)) ++ (p_r.Vals.getD 0 d_Str), (g_strings_Join (p_r.Vals.drop 1) ([44] : Str)), false⟩ : DWrite)
def i_Table_readRow (p_t : DTable) (p_w : DWrite) : DRow × Bool :=
  bif (g_strings_CutPrefix p_w.Key (p_t.Name ++ ([47] : Str))).2 then
    bif i_Table_isRow p_t (⟨(([(g_strings_CutPrefix p_w.Key (p_t.Name ++ ([47] : Str))).1] : List Str) ++ (g_strings_Split p_w.Val ([44] : Str)))⟩ : DRow) then
      bif (p_w.Key == ((i_Table_rowWrite p_t (⟨(([(g_strings_CutPrefix p_w.Key (p_t.Name ++ ([47] : Str))).1] : List Str) ++ (g_strings_Split p_w.Val ([44] : Str)))⟩ : DRow)).Key)) && ((p_w.Val == ((i_Table_rowWrite p_t (⟨(([(g_strings_CutPrefix p_w.Key (p_t.Name ++ ([47] : Str))).1] : List Str) ++ (g_strings_Split p_w.Val ([44] : Str)))⟩ : DRow)).Val)) && (p_w.Gone == ((i_Table_rowWrite p_t (⟨(([(g_strings_CutPrefix p_w.Key (p_t.Name ++ ([47] : Str))).1] : List Str) ++ (g_strings_Split p_w.Val ([44] : Str)))⟩ : DRow)).Gone))) then
        ((⟨(([(g_strings_CutPrefix p_w.Key (p_t.Name ++ ([47] : Str))).1] : List Str) ++ (g_strings_Split p_w.Val ([44] : Str)))⟩ : DRow), true)
      else
        ((⟨[]⟩ : DRow), false)
    else
      ((⟨[]⟩ : DRow), false)
  else
    ((⟨[]⟩ : DRow), false)
def B_i_Table_rowsIn_0 (p_t : DTable) (p_store : List DWrite) (k19 : Nat) : (List DRow) → Out (List DRow) (List DRow)
  | (x101) => bif (i_Table_readRow p_t (p_store.getD k19 d_Write)).2 then
      .cont ((x101 ++ ([(i_Table_readRow p_t (p_store.getD k19 d_Write)).1] : List DRow)))
    else
      .cont (x101)
def i_Table_rowsIn (p_t : DTable) (p_store : List DWrite) : List DRow :=
  loopE (loopM (B_i_Table_rowsIn_0 p_t p_store) (p_store.length - 0) 0 (([] : List DRow))) (fun r => r) (fun x101 =>
    x101)
def i_ScanRange_c1 (p_r : DRow) (p_cap0 : Int) (p_cap1 : Str) (p_cap2 : Str) : Bool :=
  bif sLt (p_r.Vals.getD ((p_cap0).toNat) d_Str) p_cap1 then
    true
  else
    !(sLe (p_r.Vals.getD ((p_cap0).toNat) d_Str) p_cap2)
def B_g_slices_insertionSortCmpFunc_Row_1 (p_data : List Nat) (p_a : Int) (p_b : Int) (p_cmp : Nat → Nat → Int) (x44 : Int) (x45 : List Nat) : Int × (List Nat) → Out (List Nat) (Int × (List Nat))
  | (x64, x65) => bif decide (p_a < x64) then
      bif decide ((p_cmp (x65.getD ((x64).toNat) d_Opq) (x65.getD ((IntKind.wrap .i64 (x64 - 1)).toNat) d_Opq)) < 0) then
        .cont (IntKind.wrap .i64 (x64 - 1), ((x65.set ((x64).toNat) (x65.getD ((IntKind.wrap .i64 (x64 - 1)).toNat) d_Opq)).set ((IntKind.wrap .i64 (x64 - 1)).toNat) (x65.getD ((x64).toNat) d_Opq)))
      else
        .brk (x64, x65)
    else
      .brk (x64, x65)
def B_g_slices_insertionSortCmpFunc_Row_0 (p_data : List Nat) (p_a : Int) (p_b : Int) (p_cmp : Nat → Nat → Int) : Int × (List Nat) → Out (List Nat) (Int × (List Nat))
  | (x44, x45) => bif decide (x44 < p_b) then
      loopE (loopW (B_g_slices_insertionSortCmpFunc_Row_1 p_data p_a p_b p_cmp x44 x45) (((x44 - p_a).toNat) + 1) (x44, x45)) (fun r => Out.ret r) (fun (x64, x65) =>
        .cont (IntKind.wrap .i64 (x44 + 1), x65))
    else
      .brk (x44, x45)
def g_slices_insertionSortCmpFunc_Row (p_data : List Nat) (p_a : Int) (p_b : Int) (p_cmp : Nat → Nat → Int) : List Nat :=
  loopE (loopW (B_g_slices_insertionSortCmpFunc_Row_0 p_data p_a p_b p_cmp) (((p_b - IntKind.wrap .i64 (p_a + 1)).toNat) + 1) (IntKind.wrap .i64 (p_a + 1), p_data)) (fun r => r) (fun (x44, x45) =>
    x45)
def B_g_slices_swapRangeCmpFunc_Row_0 (p_data : List Nat) (p_a : Int) (p_b : Int) (p_n : Int) (p_cmp : Nat → Nat → Int) : Int × (List Nat) → Out (List Nat) (Int × (List Nat))
  | (x20, x21) => bif decide (x20 < p_n) then
      .cont (IntKind.wrap .i64 (x20 + 1), ((x21.set ((IntKind.wrap .i64 (p_a + x20)).toNat) (x21.getD ((IntKind.wrap .i64 (p_b + x20)).toNat) d_Opq)).set ((IntKind.wrap .i64 (p_b + x20)).toNat) (x21.getD ((IntKind.wrap .i64 (p_a + x20)).toNat) d_Opq)))
    else
      .brk (x20, x21)
def g_slices_swapRangeCmpFunc_Row (p_data : List Nat) (p_a : Int) (p_b : Int) (p_n : Int) (p_cmp : Nat → Nat → Int) : List Nat :=
  loopE (loopW (B_g_slices_swapRangeCmpFunc_Row_0 p_data p_a p_b p_n p_cmp) (((p_n - 0).toNat) + 1) (0, p_data)) (fun r => r) (fun (x20, x21) =>
    x21)
def B_g_slices_rotateCmpFunc_Row_0 (p_data : List Nat) (p_a : Int) (p_m : Int) (p_b : Int) (p_cmp : Nat → Nat → Int) : Int × Int × (List Nat) → Out (List Nat) (Int × Int × (List Nat))
  | (x22, x23, x24) => bif decide (x22 = x23) then
      .brk (x22, x23, x24)
    else
      bif decide (x23 < x22) then
        .cont (IntKind.wrap .i64 (x22 - x23), x23, (g_slices_swapRangeCmpFunc_Row x24 (IntKind.wrap .i64 (p_m - x22)) p_m x23 p_cmp))
      else
        .cont (x22, IntKind.wrap .i64 (x23 - x22), (g_slices_swapRangeCmpFunc_Row x24 (IntKind.wrap .i64 (p_m - x22)) (IntKind.wrap .i64 ((IntKind.wrap .i64 (p_m + x23)) - x22)) x22 p_cmp))
def g_slices_rotateCmpFunc_Row (p_data : List Nat) (p_a : Int) (p_m : Int) (p_b : Int) (p_cmp : Nat → Nat → Int) : List Nat :=
  loopE (loopW (B_g_slices_rotateCmpFunc_Row_0 p_data p_a p_m p_b p_cmp) (((IntKind.wrap .i64 (p_m - p_a) + IntKind.wrap .i64 (p_b - p_m)).toNat) + 1) (IntKind.wrap .i64 (p_m - p_a), IntKind.wrap .i64 (p_b - p_m), p_data)) (fun r => r) (fun (x22, x23, x24) =>
    (g_slices_swapRangeCmpFunc_Row x24 (IntKind.wrap .i64 (p_m - x22)) p_m x22 p_cmp))
def B_g_slices_symMergeCmpFunc_Row_0 (kf : Nat) (p_0 : List Nat) (p_1 : Int) (p_2 : Int) (p_3 : Int) (p_4 : Nat → Nat → Int) : Int × Int → Out (List Nat) (Int × Int)
  | (x9, x10) => bif decide (x9 < x10) then
      bif decide ((p_4 (p_0.getD ((IntKind.wrap .i64 (Int.fdiv (IntKind.wrap .u64 (IntKind.wrap .i64 (x9 + x10))) 2)).toNat) d_Opq) (p_0.getD ((p_1).toNat) d_Opq)) < 0) then
        .cont (IntKind.wrap .i64 ((IntKind.wrap .i64 (Int.fdiv (IntKind.wrap .u64 (IntKind.wrap .i64 (x9 + x10))) 2)) + 1), x10)
      else
        .cont (x9, IntKind.wrap .i64 (Int.fdiv (IntKind.wrap .u64 (IntKind.wrap .i64 (x9 + x10))) 2))
    else
      .brk (x9, x10)
def B_g_slices_symMergeCmpFunc_Row_1 (kf : Nat) (p_0 : List Nat) (p_1 : Int) (p_2 : Int) (p_3 : Int) (p_4 : Nat → Nat → Int) (x9 : Int) (x10 : Int) : Int × (List Nat) → Out (List Nat) (Int × (List Nat))
  | (x33, x34) => bif decide (x33 < (IntKind.wrap .i64 (x9 - 1))) then
      .cont (IntKind.wrap .i64 (x33 + 1), ((x34.set ((x33).toNat) (x34.getD ((IntKind.wrap .i64 (x33 + 1)).toNat) d_Opq)).set ((IntKind.wrap .i64 (x33 + 1)).toNat) (x34.getD ((x33).toNat) d_Opq)))
    else
      .brk (x33, x34)
def B_g_slices_symMergeCmpFunc_Row_2 (kf : Nat) (p_0 : List Nat) (p_1 : Int) (p_2 : Int) (p_3 : Int) (p_4 : Nat → Nat → Int) : Int × Int → Out (List Nat) (Int × Int)
  | (x48, x49) => bif decide (x48 < x49) then
      bif decide ((p_4 (p_0.getD ((p_2).toNat) d_Opq) (p_0.getD ((IntKind.wrap .i64 (Int.fdiv (IntKind.wrap .u64 (IntKind.wrap .i64 (x48 + x49))) 2)).toNat) d_Opq)) < 0) then
        .cont (x48, IntKind.wrap .i64 (Int.fdiv (IntKind.wrap .u64 (IntKind.wrap .i64 (x48 + x49))) 2))
      else
        .cont (IntKind.wrap .i64 ((IntKind.wrap .i64 (Int.fdiv (IntKind.wrap .u64 (IntKind.wrap .i64 (x48 + x49))) 2)) + 1), x49)
    else
      .brk (x48, x49)
def B_g_slices_symMergeCmpFunc_Row_3 (kf : Nat) (p_0 : List Nat) (p_1 : Int) (p_2 : Int) (p_3 : Int) (p_4 : Nat → Nat → Int) (x48 : Int) (x49 : Int) : Int × (List Nat) → Out (List Nat) (Int × (List Nat))
  | (x72, x73) => bif decide (x48 < x72) then
      .cont (IntKind.wrap .i64 (x72 - 1), ((x73.set ((x72).toNat) (x73.getD ((IntKind.wrap .i64 (x72 - 1)).toNat) d_Opq)).set ((IntKind.wrap .i64 (x72 - 1)).toNat) (x73.getD ((x72).toNat) d_Opq)))
    else
      .brk (x72, x73)
def B_g_slices_symMergeCmpFunc_Row_4 (kf : Nat) (p_0 : List Nat) (p_1 : Int) (p_2 : Int) (p_3 : Int) (p_4 : Nat → Nat → Int) : Int × Int → Out (List Nat) (Int × Int)
  | (x87, x88) => bif decide (x87 < x88) then
      bif decide ((p_4 (p_0.getD ((IntKind.wrap .i64 ((IntKind.wrap .i64 ((IntKind.wrap .i64 ((IntKind.wrap .i64 (Int.fdiv (IntKind.wrap .u64 (IntKind.wrap .i64 (p_1 + p_3))) 2)) + p_2)) - 1)) - (IntKind.wrap .i64 (Int.fdiv (IntKind.wrap .u64 (IntKind.wrap .i64 (x87 + x88))) 2)))).toNat) d_Opq) (p_0.getD ((IntKind.wrap .i64 (Int.fdiv (IntKind.wrap .u64 (IntKind.wrap .i64 (x87 + x88))) 2)).toNat) d_Opq)) < 0) then
        .cont (x87, IntKind.wrap .i64 (Int.fdiv (IntKind.wrap .u64 (IntKind.wrap .i64 (x87 + x88))) 2))
      else
        .cont (IntKind.wrap .i64 ((IntKind.wrap .i64 (Int.fdiv (IntKind.wrap .u64 (IntKind.wrap .i64 (x87 + x88))) 2)) + 1), x88)
    else
      .brk (x87, x88)
def g_slices_symMergeCmpFunc_Row : Nat → (List Nat) → (Int) → (Int) → (Int) → (Nat → Nat → Int) → List Nat
  | 0, p_0, _, _, _, _ => p_0
  | kf + 1, p_0, p_1, p_2, p_3, p_4 =>
  bif decide ((IntKind.wrap .i64 (p_2 - p_1)) = 1) then
    loopE (loopW (B_g_slices_symMergeCmpFunc_Row_0 kf p_0 p_1 p_2 p_3 p_4) (((p_3 - p_2).toNat) + 1) (p_2, p_3)) (fun r => r) (fun (x9, x10) =>
      loopE (loopW (B_g_slices_symMergeCmpFunc_Row_1 kf p_0 p_1 p_2 p_3 p_4 x9 x10) (((x9 - p_1).toNat) + 1) (p_1, p_0)) (fun r => r) (fun (x33, x34) =>
        x34))
  else
    bif decide ((IntKind.wrap .i64 (p_3 - p_2)) = 1) then
      loopE (loopW (B_g_slices_symMergeCmpFunc_Row_2 kf p_0 p_1 p_2 p_3 p_4) (((p_2 - p_1).toNat) + 1) (p_1, p_2)) (fun r => r) (fun (x48, x49) =>
        loopE (loopW (B_g_slices_symMergeCmpFunc_Row_3 kf p_0 p_1 p_2 p_3 p_4 x48 x49) (((p_2 - x48).toNat) + 1) (p_2, p_0)) (fun r => r) (fun (x72, x73) =>
          x73))
    else
      bif decide ((IntKind.wrap .i64 (Int.fdiv (IntKind.wrap .u64 (IntKind.wrap .i64 (p_1 + p_3))) 2)) < p_2) then
        loopE (loopW (B_g_slices_symMergeCmpFunc_Row_4 kf p_0 p_1 p_2 p_3 p_4) (((IntKind.wrap .i64 (Int.fdiv (IntKind.wrap .u64 (IntKind.wrap .i64 (p_1 + p_3))) 2) - IntKind.wrap .i64 ((IntKind.wrap .i64 ((IntKind.wrap .i64 (Int.fdiv (IntKind.wrap .u64 (IntKind.wrap .i64 (p_1 + p_3))) 2)) + p_2)) - p_3)).toNat) + 1) (IntKind.wrap .i64 ((IntKind.wrap .i64 ((IntKind.wrap .i64 (Int.fdiv (IntKind.wrap .u64 (IntKind.wrap .i64 (p_1 + p_3))) 2)) + p_2)) - p_3), IntKind.wrap .i64 (Int.fdiv (IntKind.wrap .u64 (IntKind.wrap .i64 (p_1 + p_3))) 2))) (fun r => r) (fun (x87, x88) =>
          bif decide (x87 < p_2) then
            bif decide (p_2 < (IntKind.wrap .i64 ((IntKind.wrap .i64 ((IntKind.wrap .i64 (Int.fdiv (IntKind.wrap .u64 (IntKind.wrap .i64 (p_1 + p_3))) 2)) + p_2)) - x87))) then
              bif decide (p_1 < x87) then
                bif decide (x87 < (IntKind.wrap .i64 (Int.fdiv (IntKind.wrap .u64 (IntKind.wrap .i64 (p_1 + p_3))) 2))) then
                  bif decide ((IntKind.wrap .i64 (Int.fdiv (IntKind.wrap .u64 (IntKind.wrap .i64 (p_1 + p_3))) 2)) < (IntKind.wrap .i64 ((IntKind.wrap .i64 ((IntKind.wrap .i64 (Int.fdiv (IntKind.wrap .u64 (IntKind.wrap .i64 (p_1 + p_3))) 2)) + p_2)) - x87))) then
                    bif decide ((IntKind.wrap .i64 ((IntKind.wrap .i64 ((IntKind.wrap .i64 (Int.fdiv (IntKind.wrap .u64 (IntKind.wrap .i64 (p_1 + p_3))) 2)) + p_2)) - x87)) < p_3) then
                      (g_slices_symMergeCmpFunc_Row kf (g_slices_symMergeCmpFunc_Row kf (g_slices_rotateCmpFunc_Row p_0 x87 p_2 (IntKind.wrap .i64 ((IntKind.wrap .i64 ((IntKind.wrap .i64 (Int.fdiv (IntKind.wrap .u64 (IntKind.wrap .i64 (p_1 + p_3))) 2)) + p_2)) - x87)) p_4) p_1 x87 (IntKind.wrap .i64 (Int.fdiv (IntKind.wrap .u64 (IntKind.wrap .i64 (p_1 + p_3))) 2)) p_4) (IntKind.wrap .i64 (Int.fdiv (IntKind.wrap .u64 (IntKind.wrap .i64 (p_1 + p_3))) 2)) (IntKind.wrap .i64 ((IntKind.wrap .i64 ((IntKind.wrap .i64 (Int.fdiv (IntKind.wrap .u64 (IntKind.wrap .i64 (p_1 + p_3))) 2)) + p_2)) - x87)) p_3 p_4)
                    else
                      (g_slices_symMergeCmpFunc_Row kf (g_slices_rotateCmpFunc_Row p_0 x87 p_2 (IntKind.wrap .i64 ((IntKind.wrap .i64 ((IntKind.wrap .i64 (Int.fdiv (IntKind.wrap .u64 (IntKind.wrap .i64 (p_1 + p_3))) 2)) + p_2)) - x87)) p_4) p_1 x87 (IntKind.wrap .i64 (Int.fdiv (IntKind.wrap .u64 (IntKind.wrap .i64 (p_1 + p_3))) 2)) p_4)
                  else
                    (g_slices_symMergeCmpFunc_Row kf (g_slices_rotateCmpFunc_Row p_0 x87 p_2 (IntKind.wrap .i64 ((IntKind.wrap .i64 ((IntKind.wrap .i64 (Int.fdiv (IntKind.wrap .u64 (IntKind.wrap .i64 (p_1 + p_3))) 2)) + p_2)) - x87)) p_4) p_1 x87 (IntKind.wrap .i64 (Int.fdiv (IntKind.wrap .u64 (IntKind.wrap .i64 (p_1 + p_3))) 2)) p_4)
                else
                  bif decide ((IntKind.wrap .i64 (Int.fdiv (IntKind.wrap .u64 (IntKind.wrap .i64 (p_1 + p_3))) 2)) < (IntKind.wrap .i64 ((IntKind.wrap .i64 ((IntKind.wrap .i64 (Int.fdiv (IntKind.wrap .u64 (IntKind.wrap .i64 (p_1 + p_3))) 2)) + p_2)) - x87))) then
                    bif decide ((IntKind.wrap .i64 ((IntKind.wrap .i64 ((IntKind.wrap .i64 (Int.fdiv (IntKind.wrap .u64 (IntKind.wrap .i64 (p_1 + p_3))) 2)) + p_2)) - x87)) < p_3) then
                      (g_slices_symMergeCmpFunc_Row kf (g_slices_rotateCmpFunc_Row p_0 x87 p_2 (IntKind.wrap .i64 ((IntKind.wrap .i64 ((IntKind.wrap .i64 (Int.fdiv (IntKind.wrap .u64 (IntKind.wrap .i64 (p_1 + p_3))) 2)) + p_2)) - x87)) p_4) (IntKind.wrap .i64 (Int.fdiv (IntKind.wrap .u64 (IntKind.wrap .i64 (p_1 + p_3))) 2)) (IntKind.wrap .i64 ((IntKind.wrap .i64 ((IntKind.wrap .i64 (Int.fdiv (IntKind.wrap .u64 (IntKind.wrap .i64 (p_1 + p_3))) 2)) + p_2)) - x87)) p_3 p_4)
                    else
                      (g_slices_rotateCmpFunc_Row p_0 x87 p_2 (IntKind.wrap .i64 ((IntKind.wrap .i64 ((IntKind.wrap .i64 (Int.fdiv (IntKind.wrap .u64 (IntKind.wrap .i64 (p_1 + p_3))) 2)) + p_2)) - x87)) p_4)
                  else
                    (g_slices_rotateCmpFunc_Row p_0 x87 p_2 (IntKind.wrap .i64 ((IntKind.wrap .i64 ((IntKind.wrap .i64 (Int.fdiv (IntKind.wrap .u64 (IntKind.wrap .i64 (p_1 + p_3))) 2)) + p_2)) - x87)) p_4)
              else
                bif decide ((IntKind.wrap .i64 (Int.fdiv (IntKind.wrap .u64 (IntKind.wrap .i64 (p_1 + p_3))) 2)) < (IntKind.wrap .i64 ((IntKind.wrap .i64 ((IntKind.wrap .i64 (Int.fdiv (IntKind.wrap .u64 (IntKind.wrap .i64 (p_1 + p_3))) 2)) + p_2)) - x87))) then
                  bif decide ((IntKind.wrap .i64 ((IntKind.wrap .i64 ((IntKind.wrap .i64 (Int.fdiv (IntKind.wrap .u64 (IntKind.wrap .i64 (p_1 + p_3))) 2)) + p_2)) - x87)) < p_3) then
                    (g_slices_symMergeCmpFunc_Row kf (g_slices_rotateCmpFunc_Row p_0 x87 p_2 (IntKind.wrap .i64 ((IntKind.wrap .i64 ((IntKind.wrap .i64 (Int.fdiv (IntKind.wrap .u64 (IntKind.wrap .i64 (p_1 + p_3))) 2)) + p_2)) - x87)) p_4) (IntKind.wrap .i64 (Int.fdiv (IntKind.wrap .u64 (IntKind.wrap .i64 (p_1 + p_3))) 2)) (IntKind.wrap .i64 ((IntKind.wrap .i64 ((IntKind.wrap .i64 (Int.fdiv (IntKind.wrap .u64 (IntKind.wrap .i64 (p_1 + p_3))) 2)) + p_2)) - x87)) p_3 p_4)
                  else
                    (g_slices_rotateCmpFunc_Row p_0 x87 p_2 (IntKind.wrap .i64 ((IntKind.wrap .i64 ((IntKind.wrap .i64 (Int.fdiv (IntKind.wrap .u64 (IntKind.wrap .i64 (p_1 + p_3))) 2)) + p_2)) - x87)) p_4)
                else
                  (g_slices_rotateCmpFunc_Row p_0 x87 p_2 (IntKind.wrap .i64 ((IntKind.wrap .i64 ((IntKind.wrap .i64 (Int.fdiv (IntKind.wrap .u64 (IntKind.wrap .i64 (p_1 + p_3))) 2)) + p_2)) - x87)) p_4)
            else
              bif decide (p_1 < x87) then
                bif decide (x87 < (IntKind.wrap .i64 (Int.fdiv (IntKind.wrap .u64 (IntKind.wrap .i64 (p_1 + p_3))) 2))) then
                  bif decide ((IntKind.wrap .i64 (Int.fdiv (IntKind.wrap .u64 (IntKind.wrap .i64 (p_1 + p_3))) 2)) < (IntKind.wrap .i64 ((IntKind.wrap .i64 ((IntKind.wrap .i64 (Int.fdiv (IntKind.wrap .u64 (IntKind.wrap .i64 (p_1 + p_3))) 2)) + p_2)) - x87))) then
                    bif decide ((IntKind.wrap .i64 ((IntKind.wrap .i64 ((IntKind.wrap .i64 (Int.fdiv (IntKind.wrap .u64 (IntKind.wrap .i64 (p_1 + p_3))) 2)) + p_2)) - x87)) < p_3) then
                      (g_slices_symMergeCmpFunc_Row kf (g_slices_symMergeCmpFunc_Row kf p_0 p_1 x87 (IntKind.wrap .i64 (Int.fdiv (IntKind.wrap .u64 (IntKind.wrap .i64 (p_1 + p_3))) 2)) p_4) (IntKind.wrap .i64 (Int.fdiv (IntKind.wrap .u64 (IntKind.wrap .i64 (p_1 + p_3))) 2)) (IntKind.wrap .i64 ((IntKind.wrap .i64 ((IntKind.wrap .i64 (Int.fdiv (IntKind.wrap .u64 (IntKind.wrap .i64 (p_1 + p_3))) 2)) + p_2)) - x87)) p_3 p_4)
                    else
                      (g_slices_symMergeCmpFunc_Row kf p_0 p_1 x87 (IntKind.wrap .i64 (Int.fdiv (IntKind.wrap .u64 (IntKind.wrap .i64 (p_1 + p_3))) 2)) p_4)
                  else
                    (g_slices_symMergeCmpFunc_Row kf p_0 p_1 x87 (IntKind.wrap .i64 (Int.fdiv (IntKind.wrap .u64 (IntKind.wrap .i64 (p_1 + p_3))) 2)) p_4)
                else
                  bif decide ((IntKind.wrap .i64 (Int.fdiv (IntKind.wrap .u64 (IntKind.wrap .i64 (p_1 + p_3))) 2)) < (IntKind.wrap .i64 ((IntKind.wrap .i64 ((IntKind.wrap .i64 (Int.fdiv (IntKind.wrap .u64 (IntKind.wrap .i64 (p_1 + p_3))) 2)) + p_2)) - x87))) then
                    bif decide ((IntKind.wrap .i64 ((IntKind.wrap .i64 ((IntKind.wrap .i64 (Int.fdiv (IntKind.wrap .u64 (IntKind.wrap .i64 (p_1 + p_3))) 2)) + p_2)) - x87)) < p_3) then
                      (g_slices_symMergeCmpFunc_Row kf p_0 (IntKind.wrap .i64 (Int.fdiv (IntKind.wrap .u64 (IntKind.wrap .i64 (p_1 + p_3))) 2)) (IntKind.wrap .i64 ((IntKind.wrap .i64 ((IntKind.wrap .i64 (Int.fdiv (IntKind.wrap .u64 (IntKind.wrap .i64 (p_1 + p_3))) 2)) + p_2)) - x87)) p_3 p_4)
                    else
                      p_0
                  else
                    p_0
              else
                bif decide ((IntKind.wrap .i64 (Int.fdiv (IntKind.wrap .u64 (IntKind.wrap .i64 (p_1 + p_3))) 2)) < (IntKind.wrap .i64 ((IntKind.wrap .i64 ((IntKind.wrap .i64 (Int.fdiv (IntKind.wrap .u64 (IntKind.wrap .i64 (p_1 + p_3))) 2)) + p_2)) - x87))) then
                  bif decide ((IntKind.wrap .i64 ((IntKind.wrap .i64 ((IntKind.wrap .i64 (Int.fdiv (IntKind.wrap .u64 (IntKind.wrap .i64 (p_1 + p_3))) 2)) + p_2)) - x87)) < p_3) then
                    (g_slices_symMergeCmpFunc_Row kf p_0 (IntKind.wrap .i64 (Int.fdiv (IntKind.wrap .u64 (IntKind.wrap .i64 (p_1 + p_3))) 2)) (IntKind.wrap .i64 ((IntKind.wrap .i64 ((IntKind.wrap .i64 (Int.fdiv (IntKind.wrap .u64 (IntKind.wrap .i64 (p_1 + p_3))) 2)) + p_2)) - x87)) p_3 p_4)
                  else
                    p_0
                else
                  p_0
          else
            bif decide (p_1 < x87) then
              bif decide (x87 < (IntKind.wrap .i64 (Int.fdiv (IntKind.wrap .u64 (IntKind.wrap .i64 (p_1 + p_3))) 2))) then
                bif decide ((IntKind.wrap .i64 (Int.fdiv (IntKind.wrap .u64 (IntKind.wrap .i64 (p_1 + p_3))) 2)) < (IntKind.wrap .i64 ((IntKind.wrap .i64 ((IntKind.wrap .i64 (Int.fdiv (IntKind.wrap .u64 (IntKind.wrap .i64 (p_1 + p_3))) 2)) + p_2)) - x87))) then
                  bif decide ((IntKind.wrap .i64 ((IntKind.wrap .i64 ((IntKind.wrap .i64 (Int.fdiv (IntKind.wrap .u64 (IntKind.wrap .i64 (p_1 + p_3))) 2)) + p_2)) - x87)) < p_3) then
                    (g_slices_symMergeCmpFunc_Row kf (g_slices_symMergeCmpFunc_Row kf p_0 p_1 x87 (IntKind.wrap .i64 (Int.fdiv (IntKind.wrap .u64 (IntKind.wrap .i64 (p_1 + p_3))) 2)) p_4) (IntKind.wrap .i64 (Int.fdiv (IntKind.wrap .u64 (IntKind.wrap .i64 (p_1 + p_3))) 2)) (IntKind.wrap .i64 ((IntKind.wrap .i64 ((IntKind.wrap .i64 (Int.fdiv (IntKind.wrap .u64 (IntKind.wrap .i64 (p_1 + p_3))) 2)) + p_2)) - x87)) p_3 p_4)
                  else
                    (g_slices_symMergeCmpFunc_Row kf p_0 p_1 x87 (IntKind.wrap .i64 (Int.fdiv (IntKind.wrap .u64 (IntKind.wrap .i64 (p_1 + p_3))) 2)) p_4)
                else
                  (g_slices_symMergeCmpFunc_Row kf p_0 p_1 x87 (IntKind.wrap .i64 (Int.fdiv (IntKind.wrap .u64 (IntKind.wrap .i64 (p_1 + p_3))) 2)) p_4)
              else
                bif decide ((IntKind.wrap .i64 (Int.fdiv (IntKind.wrap .u64 (IntKind.wrap .i64 (p_1 + p_3))) 2)) < (IntKind.wrap .i64 ((IntKind.wrap .i64 ((IntKind.wrap .i64 (Int.fdiv (IntKind.wrap .u64 (IntKind.wrap .i64 (p_1 + p_3))) 2)) + p_2)) - x87))) then
                  bif decide ((IntKind.wrap .i64 ((IntKind.wrap .i64 ((IntKind.wrap .i64 (Int.fdiv (IntKind.wrap .u64 (IntKind.wrap .i64 (p_1 + p_3))) 2)) + p_2)) - x87)) < p_3) then
                    (g_slices_symMergeCmpFunc_Row kf p_0 (IntKind.wrap .i64 (Int.fdiv (IntKind.wrap .u64 (IntKind.wrap .i64 (p_1 + p_3))) 2)) (IntKind.wrap .i64 ((IntKind.wrap .i64 ((IntKind.wrap .i64 (Int.fdiv (IntKind.wrap .u64 (IntKind.wrap .i64 (p_1 + p_3))) 2)) + p_2)) - x87)) p_3 p_4)
                  else
                    p_0
                else
                  p_0
            else
              bif decide ((IntKind.wrap .i64 (Int.fdiv (IntKind.wrap .u64 (IntKind.wrap .i64 (p_1 + p_3))) 2)) < (IntKind.wrap .i64 ((IntKind.wrap .i64 ((IntKind.wrap .i64 (Int.fdiv (IntKind.wrap .u64 (IntKind.wrap .i64 (p_1 + p_3))) 2)) + p_2)) - x87))) then
                bif decide ((IntKind.wrap .i64 ((IntKind.wrap .i64 ((IntKind.wrap .i64 (Int.fdiv (IntKind.wrap .u64 (IntKind.wrap .i64 (p_1 + p_3))) 2)) + p_2)) - x87)) < p_3) then
                  (g_slices_symMergeCmpFunc_Row kf p_0 (IntKind.wrap .i64 (Int.fdiv (IntKind.wrap .u64 (IntKind.wrap .i64 (p_1 + p_3))) 2)) (IntKind.wrap .i64 ((IntKind.wrap .i64 ((IntKind.wrap .i64 (Int.fdiv (IntKind.wrap .u64 (IntKind.wrap .i64 (p_1 + p_3))) 2)) + p_2)) - x87)) p_3 p_4)
                else
                  p_0
              else
                p_0)
      else
        loopE (loopW (B_g_slices_symMergeCmpFunc_Row_4 kf p_0 p_1 p_2 p_3 p_4) (((p_2 - p_1).toNat) + 1) (p_1, p_2)) (fun r => r) (fun (x190, x191) =>
          bif decide (x190 < p_2) then
            bif decide (p_2 < (IntKind.wrap .i64 ((IntKind.wrap .i64 ((IntKind.wrap .i64 (Int.fdiv (IntKind.wrap .u64 (IntKind.wrap .i64 (p_1 + p_3))) 2)) + p_2)) - x190))) then
              bif decide (p_1 < x190) then
                bif decide (x190 < (IntKind.wrap .i64 (Int.fdiv (IntKind.wrap .u64 (IntKind.wrap .i64 (p_1 + p_3))) 2))) then
                  bif decide ((IntKind.wrap .i64 (Int.fdiv (IntKind.wrap .u64 (IntKind.wrap .i64 (p_1 + p_3))) 2)) < (IntKind.wrap .i64 ((IntKind.wrap .i64 ((IntKind.wrap .i64 (Int.fdiv (IntKind.wrap .u64 (IntKind.wrap .i64 (p_1 + p_3))) 2)) + p_2)) - x190))) then
                    bif decide ((IntKind.wrap .i64 ((IntKind.wrap .i64 ((IntKind.wrap .i64 (Int.fdiv (IntKind.wrap .u64 (IntKind.wrap .i64 (p_1 + p_3))) 2)) + p_2)) - x190)) < p_3) then
                      (g_slices_symMergeCmpFunc_Row kf (g_slices_symMergeCmpFunc_Row kf (g_slices_rotateCmpFunc_Row p_0 x190 p_2 (IntKind.wrap .i64 ((IntKind.wrap .i64 ((IntKind.wrap .i64 (Int.fdiv (IntKind.wrap .u64 (IntKind.wrap .i64 (p_1 + p_3))) 2)) + p_2)) - x190)) p_4) p_1 x190 (IntKind.wrap .i64 (Int.fdiv (IntKind.wrap .u64 (IntKind.wrap .i64 (p_1 + p_3))) 2)) p_4) (IntKind.wrap .i64 (Int.fdiv (IntKind.wrap .u64 (IntKind.wrap .i64 (p_1 + p_3))) 2)) (IntKind.wrap .i64 ((IntKind.wrap .i64 ((IntKind.wrap .i64 (Int.fdiv (IntKind.wrap .u64 (IntKind.wrap .i64 (p_1 + p_3))) 2)) + p_2)) - x190)) p_3 p_4)
                    else
                      (g_slices_symMergeCmpFunc_Row kf (g_slices_rotateCmpFunc_Row p_0 x190 p_2 (IntKind.wrap .i64 ((IntKind.wrap .i64 ((IntKind.wrap .i64 (Int.fdiv (IntKind.wrap .u64 (IntKind.wrap .i64 (p_1 + p_3))) 2)) + p_2)) - x190)) p_4) p_1 x190 (IntKind.wrap .i64 (Int.fdiv (IntKind.wrap .u64 (IntKind.wrap .i64 (p_1 + p_3))) 2)) p_4)
                  else
                    (g_slices_symMergeCmpFunc_Row kf (g_slices_rotateCmpFunc_Row p_0 x190 p_2 (IntKind.wrap .i64 ((IntKind.wrap .i64 ((IntKind.wrap .i64 (Int.fdiv (IntKind.wrap .u64 (IntKind.wrap .i64 (p_1 + p_3))) 2)) + p_2)) - x190)) p_4) p_1 x190 (IntKind.wrap .i64 (Int.fdiv (IntKind.wrap .u64 (IntKind.wrap .i64 (p_1 + p_3))) 2)) p_4)
                else
                  bif decide ((IntKind.wrap .i64 (Int.fdiv (IntKind.wrap .u64 (IntKind.wrap .i64 (p_1 + p_3))) 2)) < (IntKind.wrap .i64 ((IntKind.wrap .i64 ((IntKind.wrap .i64 (Int.fdiv (IntKind.wrap .u64 (IntKind.wrap .i64 (p_1 + p_3))) 2)) + p_2)) - x190))) then
                    bif decide ((IntKind.wrap .i64 ((IntKind.wrap .i64 ((IntKind.wrap .i64 (Int.fdiv (IntKind.wrap .u64 (IntKind.wrap .i64 (p_1 + p_3))) 2)) + p_2)) - x190)) < p_3) then
                      (g_slices_symMergeCmpFunc_Row kf (g_slices_rotateCmpFunc_Row p_0 x190 p_2 (IntKind.wrap .i64 ((IntKind.wrap .i64 ((IntKind.wrap .i64 (Int.fdiv (IntKind.wrap .u64 (IntKind.wrap .i64 (p_1 + p_3))) 2)) + p_2)) - x190)) p_4) (IntKind.wrap .i64 (Int.fdiv (IntKind.wrap .u64 (IntKind.wrap .i64 (p_1 + p_3))) 2)) (IntKind.wrap .i64 ((IntKind.wrap .i64 ((IntKind.wrap .i64 (Int.fdiv (IntKind.wrap .u64 (IntKind.wrap .i64 (p_1 + p_3))) 2)) + p_2)) - x190)) p_3 p_4)
                    else
                      (g_slices_rotateCmpFunc_Row p_0 x190 p_2 (IntKind.wrap .i64 ((IntKind.wrap .i64 ((IntKind.wrap .i64 (Int.fdiv (IntKind.wrap .u64 (IntKind.wrap .i64 (p_1 + p_3))) 2)) + p_2)) - x190)) p_4)
                  else
                    (g_slices_rotateCmpFunc_Row p_0 x190 p_2 (IntKind.wrap .i64 ((IntKind.wrap .i64 ((IntKind.wrap .i64 (Int.fdiv (IntKind.wrap .u64 (IntKind.wrap .i64 (p_1 + p_3))) 2)) + p_2)) - x190)) p_4)
              else
                bif decide ((IntKind.wrap .i64 (Int.fdiv (IntKind.wrap .u64 (IntKind.wrap .i64 (p_1 + p_3))) 2)) < (IntKind.wrap .i64 ((IntKind.wrap .i64 ((IntKind.wrap .i64 (Int.fdiv (IntKind.wrap .u64 (IntKind.wrap .i64 (p_1 + p_3))) 2)) + p_2)) - x190))) then
                  bif decide ((IntKind.wrap .i64 ((IntKind.wrap .i64 ((IntKind.wrap .i64 (Int.fdiv (IntKind.wrap .u64 (IntKind.wrap .i64 (p_1 + p_3))) 2)) + p_2)) - x190)) < p_3) then
                    (g_slices_symMergeCmpFunc_Row kf (g_slices_rotateCmpFunc_Row p_0 x190 p_2 (IntKind.wrap .i64 ((IntKind.wrap .i64 ((IntKind.wrap .i64 (Int.fdiv (IntKind.wrap .u64 (IntKind.wrap .i64 (p_1 + p_3))) 2)) + p_2)) - x190)) p_4) (IntKind.wrap .i64 (Int.fdiv (IntKind.wrap .u64 (IntKind.wrap .i64 (p_1 + p_3))) 2)) (IntKind.wrap .i64 ((IntKind.wrap .i64 ((IntKind.wrap .i64 (Int.fdiv (IntKind.wrap .u64 (IntKind.wrap .i64 (p_1 + p_3))) 2)) + p_2)) - x190)) p_3 p_4)
                  else
                    (g_slices_rotateCmpFunc_Row p_0 x190 p_2 (IntKind.wrap .i64 ((IntKind.wrap .i64 ((IntKind.wrap .i64 (Int.fdiv (IntKind.wrap .u64 (IntKind.wrap .i64 (p_1 + p_3))) 2)) + p_2)) - x190)) p_4)
                else
                  (g_slices_rotateCmpFunc_Row p_0 x190 p_2 (IntKind.wrap .i64 ((IntKind.wrap .i64 ((IntKind.wrap .i64 (Int.fdiv (IntKind.wrap .u64 (IntKind.wrap .i64 (p_1 + p_3))) 2)) + p_2)) - x190)) p_4)
            else
              bif decide (p_1 < x190) then
                bif decide (x190 < (IntKind.wrap .i64 (Int.fdiv (IntKind.wrap .u64 (IntKind.wrap .i64 (p_1 + p_3))) 2))) then
                  bif decide ((IntKind.wrap .i64 (Int.fdiv (IntKind.wrap .u64 (IntKind.wrap .i64 (p_1 + p_3))) 2)) < (IntKind.wrap .i64 ((IntKind.wrap .i64 ((IntKind.wrap .i64 (Int.fdiv (IntKind.wrap .u64 (IntKind.wrap .i64 (p_1 + p_3))) 2)) + p_2)) - x190))) then
                    bif decide ((IntKind.wrap .i64 ((IntKind.wrap .i64 ((IntKind.wrap .i64 (Int.fdiv (IntKind.wrap .u64 (IntKind.wrap .i64 (p_1 + p_3))) 2)) + p_2)) - x190)) < p_3) then
                      (g_slices_symMergeCmpFunc_Row kf (g_slices_symMergeCmpFunc_Row kf p_0 p_1 x190 (IntKind.wrap .i64 (Int.fdiv (IntKind.wrap .u64 (IntKind.wrap .i64 (p_1 + p_3))) 2)) p_4) (IntKind.wrap .i64 (Int.fdiv (IntKind.wrap .u64 (IntKind.wrap .i64 (p_1 + p_3))) 2)) (IntKind.wrap .i64 ((IntKind.wrap .i64 ((IntKind.wrap .i64 (Int.fdiv (IntKind.wrap .u64 (IntKind.wrap .i64 (p_1 + p_3))) 2)) + p_2)) - x190)) p_3 p_4)
                    else
                      (g_slices_symMergeCmpFunc_Row kf p_0 p_1 x190 (IntKind.wrap .i64 (Int.fdiv (IntKind.wrap .u64 (IntKind.wrap .i64 (p_1 + p_3))) 2)) p_4)
                  else
                    (g_slices_symMergeCmpFunc_Row kf p_0 p_1 x190 (IntKind.wrap .i64 (Int.fdiv (IntKind.wrap .u64 (IntKind.wrap .i64 (p_1 + p_3))) 2)) p_4)
                else
                  bif decide ((IntKind.wrap .i64 (Int.fdiv (IntKind.wrap .u64 (IntKind.wrap .i64 (p_1 + p_3))) 2)) < (IntKind.wrap .i64 ((IntKind.wrap .i64 ((IntKind.wrap .i64 (Int.fdiv (IntKind.wrap .u64 (IntKind.wrap .i64 (p_1 + p_3))) 2)) + p_2)) - x190))) then
                    bif decide ((IntKind.wrap .i64 ((IntKind.wrap .i64 ((IntKind.wrap .i64 (Int.fdiv (IntKind.wrap .u64 (IntKind.wrap .i64 (p_1 + p_3))) 2)) + p_2)) - x190)) < p_3) then
                      (g_slices_symMergeCmpFunc_Row kf p_0 (IntKind.wrap .i64 (Int.fdiv (IntKind.wrap .u64 (IntKind.wrap .i64 (p_1 + p_3))) 2)) (IntKind.wrap .i64 ((IntKind.wrap .i64 ((IntKind.wrap .i64 (Int.fdiv (IntKind.wrap .u64 (IntKind.wrap .i64 (p_1 + p_3))) 2)) + p_2)) - x190)) p_3 p_4)
                    else
                      p_0
                  else
                    p_0
              else
                bif decide ((IntKind.wrap .i64 (Int.fdiv (IntKind.wrap .u64 (IntKind.wrap .i64 (p_1 + p_3))) 2)) < (IntKind.wrap .i64 ((IntKind.wrap .i64 ((IntKind.wrap .i64 (Int.fdiv (IntKind.wrap .u64 (IntKind.wrap .i64 (p_1 + p_3))) 2)) + p_2)) - x190))) then
                  bif decide ((IntKind.wrap .i64 ((IntKind.wrap .i64 ((IntKind.wrap .i64 (Int.fdiv (IntKind.wrap .u64 (IntKind.wrap .i64 (p_1 + p_3))) 2)) + p_2)) - x190)) < p_3) then
                    (g_slices_symMergeCmpFunc_Row kf p_0 (IntKind.wrap .i64 (Int.fdiv (IntKind.wrap .u64 (IntKind.wrap .i64 (p_1 + p_3))) 2)) (IntKind.wrap .i64 ((IntKind.wrap .i64 ((IntKind.wrap .i64 (Int.fdiv (IntKind.wrap .u64 (IntKind.wrap .i64 (p_1 + p_3))) 2)) + p_2)) - x190)) p_3 p_4)
                  else
                    p_0
                else
                  p_0
          else
            bif decide (p_1 < x190) then
              bif decide (x190 < (IntKind.wrap .i64 (Int.fdiv (IntKind.wrap .u64 (IntKind.wrap .i64 (p_1 + p_3))) 2))) then
                bif decide ((IntKind.wrap .i64 (Int.fdiv (IntKind.wrap .u64 (IntKind.wrap .i64 (p_1 + p_3))) 2)) < (IntKind.wrap .i64 ((IntKind.wrap .i64 ((IntKind.wrap .i64 (Int.fdiv (IntKind.wrap .u64 (IntKind.wrap .i64 (p_1 + p_3))) 2)) + p_2)) - x190))) then
                  bif decide ((IntKind.wrap .i64 ((IntKind.wrap .i64 ((IntKind.wrap .i64 (Int.fdiv (IntKind.wrap .u64 (IntKind.wrap .i64 (p_1 + p_3))) 2)) + p_2)) - x190)) < p_3) then
                    (g_slices_symMergeCmpFunc_Row kf (g_slices_symMergeCmpFunc_Row kf p_0 p_1 x190 (IntKind.wrap .i64 (Int.fdiv (IntKind.wrap .u64 (IntKind.wrap .i64 (p_1 + p_3))) 2)) p_4) (IntKind.wrap .i64 (Int.fdiv (IntKind.wrap .u64 (IntKind.wrap .i64 (p_1 + p_3))) 2)) (IntKind.wrap .i64 ((IntKind.wrap .i64 ((IntKind.wrap .i64 (Int.fdiv (IntKind.wrap .u64 (IntKind.wrap .i64 (p_1 + p_3))) 2)) + p_2)) - x190)) p_3 p_4)
                  else
                    (g_slices_symMergeCmpFunc_Row kf p_0 p_1 x190 (IntKind.wrap .i64 (Int.fdiv (IntKind.wrap .u64 (IntKind.wrap .i64 (p_1 + p_3))) 2)) p_4)
                else
                  (g_slices_symMergeCmpFunc_Row kf p_0 p_1 x190 (IntKind.wrap .i64 (Int.fdiv (IntKind.wrap .u64 (IntKind.wrap .i64 (p_1 + p_3))) 2)) p_4)
              else
                bif decide ((IntKind.wrap .i64 (Int.fdiv (IntKind.wrap .u64 (IntKind.wrap .i64 (p_1 + p_3))) 2)) < (IntKind.wrap .i64 ((IntKind.wrap .i64 ((IntKind.wrap .i64 (Int.fdiv (IntKind.wrap .u64 (IntKind.wrap .i64 (p_1 + p_3))) 2)) + p_2)) - x190))) then
                  bif decide ((IntKind.wrap .i64 ((IntKind.wrap .i64 ((IntKind.wrap .i64 (Int.fdiv (IntKind.wrap .u64 (IntKind.wrap .i64 (p_1 + p_3))) 2)) + p_2)) - x190)) < p_3) then
                    (g_slices_symMergeCmpFunc_Row kf p_0 (IntKind.wrap .i64 (Int.fdiv (IntKind.wrap .u64 (IntKind.wrap .i64 (p_1 + p_3))) 2)) (IntKind.wrap .i64 ((IntKind.wrap .i64 ((IntKind.wrap .i64 (Int.fdiv (IntKind.wrap .u64 (IntKind.wrap .i64 (p_1 + p_3))) 2)) + p_2)) - x190)) p_3 p_4)
                  else
                    p_0
                else
                  p_0
            else
              bif decide ((IntKind.wrap .i64 (Int.fdiv (IntKind.wrap .u64 (IntKind.wrap .i64 (p_1 + p_3))) 2)) < (IntKind.wrap .i64 ((IntKind.wrap .i64 ((IntKind.wrap .i64 (Int.fdiv (IntKind.wrap .u64 (IntKind.wrap .i64 (p_1 + p_3))) 2)) + p_2)) - x190))) then
                bif decide ((IntKind.wrap .i64 ((IntKind.wrap .i64 ((IntKind.wrap .i64 (Int.fdiv (IntKind.wrap .u64 (IntKind.wrap .i64 (p_1 + p_3))) 2)) + p_2)) - x190)) < p_3) then
                  (g_slices_symMergeCmpFunc_Row kf p_0 (IntKind.wrap .i64 (Int.fdiv (IntKind.wrap .u64 (IntKind.wrap .i64 (p_1 + p_3))) 2)) (IntKind.wrap .i64 ((IntKind.wrap .i64 ((IntKind.wrap .i64 (Int.fdiv (IntKind.wrap .u64 (IntKind.wrap .i64 (p_1 + p_3))) 2)) + p_2)) - x190)) p_3 p_4)
                else
                  p_0
              else
                p_0)
def B_g_slices_stableCmpFunc_Row_0 (p_data : List Nat) (p_n : Int) (p_cmp : Nat → Nat → Int) : Int × Int × (List Nat) → Out (List Nat) (Int × Int × (List Nat))
  | (x16, x17, x18) => bif decide (x17 ≤ p_n) then
      .cont (x17, IntKind.wrap .i64 (x17 + 20), (g_slices_insertionSortCmpFunc_Row x18 x16 x17 p_cmp))
    else
      .brk (x16, x17, x18)
def B_g_slices_stableCmpFunc_Row_2 (p_data : List Nat) (p_n : Int) (p_cmp : Nat → Nat → Int) (x16 : Int) (x17 : Int) (x18 : List Nat) (x57 : Int) (x58 : List Nat) : Int × Int × (List Nat) → Out (List Nat) (Int × Int × (List Nat))
  | (x69, x70, x71) => bif decide (x70 ≤ p_n) then
      .cont (x70, IntKind.wrap .i64 (x70 + (IntKind.wrap .i64 (2 * x57))), (g_slices_symMergeCmpFunc_Row 1001 x71 x69 (IntKind.wrap .i64 (x69 + x57)) x70 p_cmp))
    else
      .brk (x69, x70, x71)
def B_g_slices_stableCmpFunc_Row_1 (p_data : List Nat) (p_n : Int) (p_cmp : Nat → Nat → Int) (x16 : Int) (x17 : Int) (x18 : List Nat) : Int × (List Nat) → Out (List Nat) (Int × (List Nat))
  | (x57, x58) => bif decide (x57 < p_n) then
      loopE (loopW (B_g_slices_stableCmpFunc_Row_2 p_data p_n p_cmp x16 x17 x18 x57 x58) (((p_n - 0).toNat) + 1) (0, IntKind.wrap .i64 (2 * x57), x58)) (fun r => Out.ret r) (fun (x69, x70, x71) =>
        bif decide ((IntKind.wrap .i64 (x69 + x57)) < p_n) then
          .cont (IntKind.wrap .i64 (x57 * 2), (g_slices_symMergeCmpFunc_Row 1001 x71 x69 (IntKind.wrap .i64 (x69 + x57)) p_n p_cmp))
        else
          .cont (IntKind.wrap .i64 (x57 * 2), x71))
    else
      .brk (x57, x58)
def g_slices_stableCmpFunc_Row (p_data : List Nat) (p_n : Int) (p_cmp : Nat → Nat → Int) : List Nat :=
  loopE (loopW (B_g_slices_stableCmpFunc_Row_0 p_data p_n p_cmp) (((p_n - 0).toNat) + 1) (0, 20, p_data)) (fun r => r) (fun (x16, x17, x18) =>
    loopE (loopW (B_g_slices_stableCmpFunc_Row_1 p_data p_n p_cmp x16 x17 x18) (((p_n - 20).toNat) + 1) (20, (g_slices_insertionSortCmpFunc_Row x18 x16 p_n p_cmp))) (fun r => r) (fun (x57, x58) =>
      x58))
def g_slices_SortStableFunc_RowX (p_x : List Nat) (p_cmp : Nat → Nat → Int) : List Nat :=
  (g_slices_stableCmpFunc_Row p_x (p_x.length : Int) p_cmp)
def nthC (p_x : List DRow) (p_cmp : DRow → DRow → Int) (i j : Nat) : Int := p_cmp (p_x.getD (min i (p_x.length - 1)) d_Row) (p_x.getD (min j (p_x.length - 1)) d_Row)
def g_slices_SortStableFunc_Row (p_x : List DRow) (p_cmp : DRow → DRow → Int) : List DRow := (g_slices_SortStableFunc_RowX (List.range p_x.length) (nthC p_x p_cmp)).map fun i => p_x.getD i d_Row
def B_g_cmp_Or_int_0 (p_vals : List Int) (k3 : Nat) : Unit → Out Int Unit
  | () => bif decide ((p_vals.getD k3 d_Int) = 0) then
      .cont ()
    else
      .ret (p_vals.getD k3 d_Int)
def g_cmp_Or_int (p_vals : List Int) : Int :=
  loopE (loopM (B_g_cmp_Or_int_0 p_vals) (p_vals.length - 0) 0 ()) (fun r => r) (fun _ =>
    0)
def g_cmp_isNaN_string (p_x : Str) : Bool :=
  !(p_x == p_x)
def g_cmp_Compare_string (p_x : Str) (p_y : Str) : Int :=
  bif g_cmp_isNaN_string p_x then
    bif g_cmp_isNaN_string p_y then
      0
    else
      -1
  else
    bif g_cmp_isNaN_string p_y then
      1
    else
      bif sLt p_x p_y then
        -1
      else
        bif sLe p_x p_y then
          0
        else
          1
def i_ScanRange_c2 (p_a : DRow) (p_b : DRow) (p_cap0 : Int) : Int :=
  (g_cmp_Or_int ([(g_cmp_Compare_string (p_a.Vals.getD ((p_cap0).toNat) d_Str) (p_b.Vals.getD ((p_cap0).toNat) d_Str)), (g_cmp_Compare_string (p_a.Vals.getD 0 d_Str) (p_b.Vals.getD 0 d_Str))] : List Int))
def i_ScanRange (p_t : DTable) (p_store : List DWrite) (p_col : Int) (p_low : Str) (p_high : Str) : (List DRow) × Bool :=
  bif i_GoodTable p_t then
    bif i_isRows p_store then
      bif i_within p_col 1 (IntKind.wrap .i64 ((p_t.Cols.length : Int) - 1)) then
        bif i_isField p_low then
          bif i_isField p_high then
            ((g_slices_SortStableFunc_Row (g_slices_DeleteFunc_Row (i_Table_rowsIn p_t p_store) (fun y0 => i_ScanRange_c1 y0 p_col p_low p_high)) (fun y0 y1 => i_ScanRange_c2 y0 y1 p_col)), true)
          else
            (([] : List DRow), false)
        else
          (([] : List DRow), false)
      else
        (([] : List DRow), false)
    else
      (([] : List DRow), false)
  else
    (([] : List DRow), false)
def B_l_eqStringS_0 (p_a : List Str) (p_b : List Str) (k4 : Nat) : Unit → Out Bool Unit
  | () => bif (p_a.getD k4 d_Str) == (p_b.getD k4 d_Str) then
      .cont ()
    else
      .ret false
def l_eqStringS (p_a : List Str) (p_b : List Str) : Bool :=
  bif decide ((p_a.length : Int) = (p_b.length : Int)) then
    loopE (loopM (B_l_eqStringS_0 p_a p_b) (p_a.length - 0) 0 ()) (fun r => r) (fun _ =>
      true)
  else
    false
def l_eqRow (p_a : DRow) (p_b : DRow) : Bool :=
  bif l_eqStringS p_a.Vals p_b.Vals then
    true
  else
    false
def B_l_eqRowS_0 (p_a : List DRow) (p_b : List DRow) (k4 : Nat) : Unit → Out Bool Unit
  | () => bif l_eqRow (p_a.getD k4 d_Row) (p_b.getD k4 d_Row) then
      .cont ()
    else
      .ret false
def l_eqRowS (p_a : List DRow) (p_b : List DRow) : Bool :=
  bif decide ((p_a.length : Int) = (p_b.length : Int)) then
    loopE (loopM (B_l_eqRowS_0 p_a p_b) (p_a.length - 0) 0 ()) (fun r => r) (fun _ =>
      true)
  else
    false
def l_eqIdx (p_a : DIdx) (p_b : DIdx) : Bool :=
  bif p_a.Name == p_b.Name then
    bif decide (p_a.Col = p_b.Col) then
      bif decide (p_a.Stage = p_b.Stage) then
        true
      else
        false
    else
      false
  else
    false
def B_l_eqIdxS_0 (p_a : List DIdx) (p_b : List DIdx) (k4 : Nat) : Unit → Out Bool Unit
  | () => bif l_eqIdx (p_a.getD k4 d_Idx) (p_b.getD k4 d_Idx) then
      .cont ()
    else
      .ret false
def l_eqIdxS (p_a : List DIdx) (p_b : List DIdx) : Bool :=
  bif decide ((p_a.length : Int) = (p_b.length : Int)) then
    loopE (loopM (B_l_eqIdxS_0 p_a p_b) (p_a.length - 0) 0 ()) (fun r => r) (fun _ =>
      true)
  else
    false
def l_eqTable (p_a : DTable) (p_b : DTable) : Bool :=
  bif p_a.Name == p_b.Name then
    bif l_eqStringS p_a.Cols p_b.Cols then
      bif l_eqIdxS p_a.Idxs p_b.Idxs then
        true
      else
        false
    else
      false
  else
    false
def l_eqWrite (p_a : DWrite) (p_b : DWrite) : Bool :=
  bif p_a.Key == p_b.Key then
    bif p_a.Val == p_b.Val then
      bif p_a.Gone == p_b.Gone then
        true
      else
        false
    else
      false
  else
    false
def B_l_eqWriteS_0 (p_a : List DWrite) (p_b : List DWrite) (k4 : Nat) : Unit → Out Bool Unit
  | () => bif l_eqWrite (p_a.getD k4 d_Write) (p_b.getD k4 d_Write) then
      .cont ()
    else
      .ret false
def l_eqWriteS (p_a : List DWrite) (p_b : List DWrite) : Bool :=
  bif decide ((p_a.length : Int) = (p_b.length : Int)) then
    loopE (loopM (B_l_eqWriteS_0 p_a p_b) (p_a.length - 0) 0 ()) (fun r => r) (fun _ =>
      true)
  else
    false
def B_l_markText_0 (p_k : Int) : Int × Str → Out Str (Int × Str)
  | (x15, x16) => bif decide (0 < x15) then
      .cont (IntKind.wrap .i64 (Int.tdiv x15 10), (toS ([IntKind.wrap .u8 (IntKind.wrap .i64 (48 + (Int.tmod x15 10)))] : List Int)) ++ x16)
    else
      .brk (x15, x16)
def l_markText (p_k : Int) : Str :=
  bif decide (p_k ≤ 0) then
    ([109, 48] : Str)
  else
    loopE (loopW (B_l_markText_0 p_k) ((((p_k).toNat + 1) / 2) + 1) (p_k, ([] : Str))) (fun r => r) (fun (x15, x16) =>
      ([109] : Str) ++ x16)
def B_l_markStringS_0 (p_a : List Str) (p_k : Int) (k3 : Nat) : Int × (List Str) → Out (Int × (List Str)) (Int × (List Str))
  | (x14, x15) => .cont (IntKind.wrap .i64 (x14 + 1), (x15.set k3 (l_markText x14)))
def l_markStringS (p_a : List Str) (p_k : Int) : Int × (List Str) :=
  loopE (loopM (B_l_markStringS_0 p_a p_k) (p_a.length - 0) 0 (p_k, p_a)) (fun r => r) (fun (x14, x15) =>
    (x14, x15))
def B_l_markIdxS_0 (p_a : List DIdx) (p_k : Int) (k3 : Nat) : Int × (List DIdx) → Out (Int × (List DIdx)) (Int × (List DIdx))
  | (x26, x27) => .cont (IntKind.wrap .i64 ((IntKind.wrap .i64 ((IntKind.wrap .i64 (x26 + 1)) + 1)) + 1), (x27.set k3 (⟨(l_markText x26), IntKind.wrap .i64 (x26 + 1), IntKind.wrap .i64 ((IntKind.wrap .i64 (x26 + 1)) + 1)⟩ : DIdx)))
def l_markIdxS (p_a : List DIdx) (p_k : Int) : Int × (List DIdx) :=
  loopE (loopM (B_l_markIdxS_0 p_a p_k) (p_a.length - 0) 0 (p_k, p_a)) (fun r => r) (fun (x26, x27) =>
    (x26, x27))
def l_markTable (p_a : DTable) (p_k : Int) : Int × DTable :=
  ((l_markIdxS p_a.Idxs ((l_markStringS p_a.Cols p_k).1)).1, (⟨p_a.Name, (l_markStringS p_a.Cols p_k).2, (l_markIdxS p_a.Idxs ((l_markStringS p_a.Cols p_k).1)).2⟩ : DTable))
def B_l_markWriteS_0 (p_a : List DWrite) (p_k : Int) (k3 : Nat) : Int × (List DWrite) → Out (Int × (List DWrite)) (Int × (List DWrite))
  | (x29, x30) => .cont (IntKind.wrap .i64 ((IntKind.wrap .i64 ((IntKind.wrap .i64 (x29 + 1)) + 1)) + 1), (x30.set k3 (⟨(l_markText x29), (l_markText (IntKind.wrap .i64 (x29 + 1))), decide ((Int.tmod (IntKind.wrap .i64 ((IntKind.wrap .i64 (x29 + 1)) + 1)) 3) = 0)⟩ : DWrite)))
def l_markWriteS (p_a : List DWrite) (p_k : Int) : Int × (List DWrite) :=
  loopE (loopM (B_l_markWriteS_0 p_a p_k) (p_a.length - 0) 0 (p_k, p_a)) (fun r => r) (fun (x29, x30) =>
    (x29, x30))
def B_l_markRowS_0 (p_a : List DRow) (p_k : Int) (k3 : Nat) : Int × (List DRow) → Out (Int × (List DRow)) (Int × (List DRow))
  | (x13, x14) => .cont ((l_markStringS ((x14.getD k3 d_Row).Vals) x13).1, (x14.set k3 (⟨(l_markStringS ((x14.getD k3 d_Row).Vals) x13).2⟩ : DRow)))
def l_markRowS (p_a : List DRow) (p_k : Int) : Int × (List DRow) :=
  loopE (loopM (B_l_markRowS_0 p_a p_k) (p_a.length - 0) 0 (p_k, p_a)) (fun r => r) (fun (x13, x14) =>
    (x13, x14))
def B_l_heldStringS_0 (p_a : List Str) (p_k : Int) (k2 : Nat) : Int → Out Int Int
  | (x3) => bif (p_a.getD k2 d_Str) == (l_markText x3) then
      .cont (IntKind.wrap .i64 (x3 + 1))
    else
      .ret (-1)
def l_heldStringS (p_a : List Str) (p_k : Int) : Int :=
  loopE (loopM (B_l_heldStringS_0 p_a p_k) (p_a.length - 0) 0 (p_k)) (fun r => r) (fun x3 =>
    x3)
def B_l_heldRowS_0 (p_a : List DRow) (p_k : Int) (k2 : Nat) : Int → Out Int Int
  | (x3) => bif decide ((l_heldStringS ((p_a.getD k2 d_Row).Vals) x3) < 0) then
      .ret (-1)
    else
      .cont ((l_heldStringS ((p_a.getD k2 d_Row).Vals) x3))
def l_heldRowS (p_a : List DRow) (p_k : Int) : Int :=
  loopE (loopM (B_l_heldRowS_0 p_a p_k) (p_a.length - 0) 0 (p_k)) (fun r => r) (fun x3 =>
    x3)
def l_FnExactScanRange (p_0 : DTable) (p_1 : List DWrite) (p_2 : Int) (p_3 : Str) (p_4 : Str) : Bool :=
  bif decide (1048576 < (p_3.length : Int)) then
    true
  else
    bif decide (1048576 < (p_4.length : Int)) then
      true
    else
      bif decide ((l_szTable p_0 1048576) < 0) then
        true
      else
        bif decide ((l_szWriteS p_1 (l_szTable p_0 1048576)) < 0) then
          true
        else
          bif l_eqRowS ((i_ScanRange p_0 p_1 p_2 p_3 p_4).1) ((s_ScanRange p_0 p_1 p_2 p_3 p_4).1) then
            bif ((i_ScanRange p_0 p_1 p_2 p_3 p_4).2) == ((s_ScanRange p_0 p_1 p_2 p_3 p_4).2) then
              bif l_eqTable p_0 p_0 then
                bif l_eqWriteS p_1 p_1 then
                  bif decide (((l_markWriteS p_1 ((l_markTable p_0 1).1)).1) < 0) then
                    false
                  else
                    bif decide ((l_heldRowS ((l_markRowS ((i_ScanRange p_0 p_1 p_2 p_3 p_4).1) 1).2) 1) < 0) then
                      false
                    else
                      bif decide ((l_heldRowS ((l_markRowS ((i_ScanRange p_0 p_1 p_2 p_3 p_4).1) 1).2) 1) = ((l_markRowS ((i_ScanRange p_0 p_1 p_2 p_3 p_4).1) 1).1)) then
                        true
                      else
                        false
                else
                  false
              else
                false
            else
              false
          else
            false
structure DEntry where
  val : Str
  primary : Str
def i_GoodRow (p_t : DTable) (p_r : DRow) : Bool :=
  bif i_GoodTable p_t then
    (i_Table_isRow p_t p_r)
  else
    false
def B_l_heldWriteS_0 (p_a : List DWrite) (p_k : Int) (k2 : Nat) : Int → Out Int Int
  | (x3) => bif ((p_a.getD k2 d_Write).Key) == (l_markText x3) then
      bif ((p_a.getD k2 d_Write).Val) == (l_markText (IntKind.wrap .i64 (x3 + 1))) then
        bif ((p_a.getD k2 d_Write).Gone) == (decide ((Int.tmod (IntKind.wrap .i64 ((IntKind.wrap .i64 (x3 + 1)) + 1)) 3) = 0)) then
          .cont (IntKind.wrap .i64 ((IntKind.wrap .i64 ((IntKind.wrap .i64 (x3 + 1)) + 1)) + 1))
        else
          .ret (-1)
      else
        .ret (-1)
    else
      .ret (-1)
def l_heldWriteS (p_a : List DWrite) (p_k : Int) : Int :=
  loopE (loopM (B_l_heldWriteS_0 p_a p_k) (p_a.length - 0) 0 (p_k)) (fun r => r) (fun x3 =>
    x3)
def B_l_heldIdxS_0 (p_a : List DIdx) (p_k : Int) (k2 : Nat) : Int → Out Int Int
  | (x3) => bif ((p_a.getD k2 d_Idx).Name) == (l_markText x3) then
      bif decide (((p_a.getD k2 d_Idx).Col) = (IntKind.wrap .i64 (x3 + 1))) then
        bif decide (((p_a.getD k2 d_Idx).Stage) = (IntKind.wrap .i64 ((IntKind.wrap .i64 (x3 + 1)) + 1))) then
          .cont (IntKind.wrap .i64 ((IntKind.wrap .i64 ((IntKind.wrap .i64 (x3 + 1)) + 1)) + 1))
        else
          .ret (-1)
      else
        .ret (-1)
    else
      .ret (-1)
def l_heldIdxS (p_a : List DIdx) (p_k : Int) : Int :=
  loopE (loopM (B_l_heldIdxS_0 p_a p_k) (p_a.length - 0) 0 (p_k)) (fun r => r) (fun x3 =>
    x3)
def l_heldTable (p_a : DTable) (p_k : Int) : Int :=
  bif decide ((l_heldStringS p_a.Cols p_k) < 0) then
    -1
  else
    bif decide ((l_heldIdxS p_a.Idxs (l_heldStringS p_a.Cols p_k)) < 0) then
      -1
    else
      (l_heldIdxS p_a.Idxs (l_heldStringS p_a.Cols p_k))
def cS (x y : Str) : Int := bif sLt x y then -1 else bif sLe x y then 0 else 1
def cE (x y : DEntry) : Int := bif decide (cS x.val y.val = 0) then cS x.primary y.primary else cS x.val y.val
def i_RowWrite (p_t : DTable) (p_r : DRow) : DWrite × Bool :=
  bif i_GoodRow p_t p_r then
    ((i_Table_rowWrite p_t p_r), true)
  else
    ((⟨([] : Str), ([] : Str), false⟩ : DWrite), false)
def i_ReadRow (p_t : DTable) (p_w : DWrite) : DRow × Bool :=
  bif i_GoodTable p_t then
    ((i_Table_readRow p_t p_w).1, (i_Table_readRow p_t p_w).2)
  else
    ((⟨[]⟩ : DRow), false)
end Go.Proofs.YtdhfokkkpcelpaaGreatDoor
