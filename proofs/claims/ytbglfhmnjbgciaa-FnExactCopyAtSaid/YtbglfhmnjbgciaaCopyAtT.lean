/- Copy At: the plain forms of the values, and plain models of the functions. -/
import Derived.Test.YtbglfhmnjbgciaaE24
set_option linter.unusedVariables false
set_option linter.unusedSimpArgs false
namespace Go.Proofs.Ytbglfhmnjbgciaa
open Go.RowKit Go.X
structure DVer where
  Time : Int
  Val : Str
  Gone : Bool
def d_Ver : DVer := ⟨0, [], false⟩
def wf_Ver (x : DVer) : Prop := wfI x.Time ∧ wfS x.Val
def ok_Ver (x : DVer) : Prop := okS x.Val
theorem ok_d_Ver : ok_Ver d_Ver := ok_d_Str
def e_Ver (x : DVer) : List Value := [.int .i64 x.Time, .string (bs x.Val), .bool x.Gone]
theorem good_Ver : Gd (RF e_Ver) := RF.good fun _ => rfl
structure DCell where
  Key : Str
  Vers : List DVer
def d_Cell : DCell := ⟨[], []⟩
def wf_Cell (x : DCell) : Prop := wfS x.Key ∧ (wfL wf_Ver) x.Vers
def ok_Cell (x : DCell) : Prop := okS x.Key ∧ (okL ok_Ver) x.Vers
theorem ok_d_Cell : ok_Cell d_Cell := ⟨ok_d_Str, okL.nil _⟩
def R_Cell : Rel DCell := fun w S cs x => ∃ A1 c1, cs = [.string (bs x.Key), .slice A1 x.Vers.length c1] ∧ RdS w S (RF e_Ver) 3 A1 x.Vers.length c1 x.Vers
def RO_Cell : RelO DCell := fun w l h cs x => ∃ A1 c1 lo1 hi1, cs = [.string (bs x.Key), .slice A1 x.Vers.length c1] ∧ OwnL w lo1 hi1 68 3 (RF e_Ver) A1 x.Vers.length c1 x.Vers ∧ (l ≤ lo1 ∧ lo1 ≤ hi1 ∧ hi1 ≤ h)
theorem good_Cell : Gd R_Cell := ⟨fun ⟨A1, c1, he, h0⟩ hk => ⟨A1, c1, he, RdS.keep good_Ver h0 hk⟩, fun ⟨A1, c1, he, h0⟩ hw => ⟨A1, c1, he, RdS.wide good_Ver h0 hw⟩, fun ⟨A1, c1, he, h0⟩ => by rw [he]; rfl⟩
theorem goodO_Cell : GdO RO_Cell R_Cell := ⟨fun ⟨A1, c1, lo1, hi1, he, h1, r0⟩ hk => ⟨A1, c1, lo1, hi1, he, OwnL.keep good_Ver h1 (fun b b1 b2 b3 => hk b oM oM b3), r0⟩, fun ⟨A1, c1, lo1, hi1, he, h1, r0⟩ => by rw [he]; rfl, fun ⟨A1, c1, lo1, hi1, he, h1, r0⟩ => ⟨A1, c1, he, RdS.wide good_Ver (OwnL.rdI good_Ver h1) (fun b hb _ => ⟨by have := hb.1; omega, by have := hb.2; omega⟩)⟩⟩
theorem mkO_Cell {w : World} {l h : Nat} {z0 : Str} {lo1 hi1 n1 c1 : Nat} {A1 : Option Addr} {y1 : List DVer} (h1 : OwnL w lo1 hi1 68 3 (RF e_Ver) A1 n1 c1 y1) (r0 : (l ≤ lo1 ∧ lo1 ≤ hi1 ∧ hi1 ≤ h)) : RO_Cell w l h [.string (bs z0), .slice A1 n1 c1] ⟨z0, y1⟩ := by
  obtain rfl := h1.1
  exact ⟨A1, c1, lo1, hi1, rfl, h1, r0⟩
structure DWrite where
  Key : Str
  Val : Str
  Gone : Bool
def d_Write : DWrite := ⟨[], [], false⟩
def wf_Write (x : DWrite) : Prop := wfS x.Key ∧ wfS x.Val
def ok_Write (x : DWrite) : Prop := okS x.Key ∧ okS x.Val
theorem ok_d_Write : ok_Write d_Write := ⟨ok_d_Str, ok_d_Str⟩
def e_Write (x : DWrite) : List Value := [.string (bs x.Key), .string (bs x.Val), .bool x.Gone]
theorem gW : Gd (RF e_Write) := RF.good fun _ => rfl
structure DCopy where
  Time : Int
  Rows : List DWrite
def d_Copy : DCopy := ⟨0, []⟩
def wf_Copy (x : DCopy) : Prop := wfI x.Time ∧ (wfL wf_Write) x.Rows
def ok_Copy (x : DCopy) : Prop := (okL ok_Write) x.Rows
theorem ok_d_Copy : ok_Copy d_Copy := okL.nil _
def R_Copy : Rel DCopy := fun w S cs x => ∃ A1 c1, cs = [.int .i64 x.Time, .slice A1 x.Rows.length c1] ∧ RdS w S (RF e_Write) 3 A1 x.Rows.length c1 x.Rows
def RO_Copy : RelO DCopy := fun w l h cs x => ∃ A1 c1 lo1 hi1, cs = [.int .i64 x.Time, .slice A1 x.Rows.length c1] ∧ OwnL w lo1 hi1 63 3 (RF e_Write) A1 x.Rows.length c1 x.Rows ∧ (l ≤ lo1 ∧ lo1 ≤ hi1 ∧ hi1 ≤ h)
theorem good_Copy : Gd R_Copy := ⟨fun ⟨A1, c1, he, h0⟩ hk => ⟨A1, c1, he, RdS.keep gW h0 hk⟩, fun ⟨A1, c1, he, h0⟩ hw => ⟨A1, c1, he, RdS.wide gW h0 hw⟩, fun ⟨A1, c1, he, h0⟩ => by rw [he]; rfl⟩
theorem goodO_Copy : GdO RO_Copy R_Copy := ⟨fun ⟨A1, c1, lo1, hi1, he, h1, r0⟩ hk => ⟨A1, c1, lo1, hi1, he, OwnL.keep gW h1 (fun b b1 b2 b3 => hk b oM oM b3), r0⟩, fun ⟨A1, c1, lo1, hi1, he, h1, r0⟩ => by rw [he]; rfl, fun ⟨A1, c1, lo1, hi1, he, h1, r0⟩ => ⟨A1, c1, he, RdS.wide gW (OwnL.rdI gW h1) (fun b hb _ => ⟨by have := hb.1; omega, by have := hb.2; omega⟩)⟩⟩
theorem mkO_Copy {w : World} {l h : Nat} {z0 : Int} {lo1 hi1 n1 c1 : Nat} {A1 : Option Addr} {y1 : List DWrite} (h1 : OwnL w lo1 hi1 63 3 (RF e_Write) A1 n1 c1 y1) (r0 : (l ≤ lo1 ∧ lo1 ≤ hi1 ∧ hi1 ≤ h)) : RO_Copy w l h [.int .i64 z0, .slice A1 n1 c1] ⟨z0, y1⟩ := by
  obtain rfl := h1.1
  exact ⟨A1, c1, lo1, hi1, rfl, h1, r0⟩
structure DBoundsError where
  x : Int
  y : Int
  signed : Bool
  code : Int
def d_BoundsError : DBoundsError := ⟨0, 0, false, 0⟩
def wf_BoundsError (x : DBoundsError) : Prop := wfI x.x ∧ wfI x.y ∧ wfI x.code
def e_BoundsError (x : DBoundsError) : List Value := [.int .i64 x.x, .int .i64 x.y, .bool x.signed, .int .u8 x.code]
theorem good_BoundsError : Gd (RF e_BoundsError) := RF.good fun _ => rfl
structure DErrorAddressString where
  msg : Str
  addr : Int
def d_ErrorAddressString : DErrorAddressString := ⟨[], 0⟩
def wf_ErrorAddressString (x : DErrorAddressString) : Prop := wfS x.msg ∧ wfI x.addr
def ok_ErrorAddressString (x : DErrorAddressString) : Prop := okS x.msg
theorem ok_d_ErrorAddressString : ok_ErrorAddressString d_ErrorAddressString := ok_d_Str
def e_ErrorAddressString (x : DErrorAddressString) : List Value := [.string (bs x.msg), .int .u64 x.addr]
theorem good_ErrorAddressString : Gd (RF e_ErrorAddressString) := RF.good fun _ => rfl
def l_szVer (p_a : DVer) (p_left : Int) : Int :=
  bif decide ((IntKind.wrap .i64 (p_left - (p_a.Val.length : Int))) < 0) then
    -1
  else
    IntKind.wrap .i64 (p_left - (p_a.Val.length : Int))
def B_l_szVerS_0 (p_a : List DVer) (p_left : Int) (k3 : Nat) : Int → Out Int Int
  | (x4) => bif decide ((l_szVer (p_a.getD k3 d_Ver) x4) < 0) then
      .ret (-1)
    else
      .cont ((l_szVer (p_a.getD k3 d_Ver) x4))
def l_szVerS (p_a : List DVer) (p_left : Int) : Int :=
  bif decide ((IntKind.wrap .i64 (p_left - (p_a.length : Int))) < 0) then
    -1
  else
    loopE (loopM (B_l_szVerS_0 p_a p_left) (p_a.length - 0) 0 (IntKind.wrap .i64 (p_left - (p_a.length : Int)))) (fun r => r) (fun x4 =>
      x4)
def l_szCell (p_a : DCell) (p_left : Int) : Int :=
  bif decide ((IntKind.wrap .i64 (p_left - (p_a.Key.length : Int))) < 0) then
    -1
  else
    bif decide ((l_szVerS p_a.Vers (IntKind.wrap .i64 (p_left - (p_a.Key.length : Int)))) < 0) then
      -1
    else
      (l_szVerS p_a.Vers (IntKind.wrap .i64 (p_left - (p_a.Key.length : Int))))
def B_l_szCellS_0 (p_a : List DCell) (p_left : Int) (k3 : Nat) : Int → Out Int Int
  | (x4) => bif decide ((l_szCell (p_a.getD k3 d_Cell) x4) < 0) then
      .ret (-1)
    else
      .cont ((l_szCell (p_a.getD k3 d_Cell) x4))
def l_szCellS (p_a : List DCell) (p_left : Int) : Int :=
  bif decide ((IntKind.wrap .i64 (p_left - (p_a.length : Int))) < 0) then
    -1
  else
    loopE (loopM (B_l_szCellS_0 p_a p_left) (p_a.length - 0) 0 (IntKind.wrap .i64 (p_left - (p_a.length : Int)))) (fun r => r) (fun x4 =>
      x4)
def s_l1In (p_n : Int) (p_lo : Int) (p_hi : Int) : Bool :=
  bif decide (p_lo ≤ p_n) then
    decide (p_n ≤ p_hi)
  else
    false
def s_l3Time (p_t : Int) : Bool :=
  (s_l1In p_t 1 100000)
def B_s_l3Bytes_1 (p_s : Str) (p_more : Str) (k3 : Nat) (k6 : Nat) : Bool → Out Bool Bool
  | (x7) => bif x7 then
      .cont (true)
    else
      .cont (decide (((p_s.getD k3 0).toNat : Int) = ((p_more.getD k6 0).toNat : Int)))
def B_s_l3Bytes_0 (p_s : Str) (p_more : Str) (k3 : Nat) : Unit → Out Bool Unit
  | () => bif decide (97 ≤ ((p_s.getD k3 0).toNat : Int)) then
      bif decide (((p_s.getD k3 0).toNat : Int) ≤ 122) then
        loopE (loopM (B_s_l3Bytes_1 p_s p_more k3) (p_more.length - 0) 0 (true)) (fun r => Out.ret r) (fun x7 =>
          bif x7 then
            .cont ()
          else
            .ret false)
      else
        bif decide (48 ≤ ((p_s.getD k3 0).toNat : Int)) then
          loopE (loopM (B_s_l3Bytes_1 p_s p_more k3) (p_more.length - 0) 0 (decide (((p_s.getD k3 0).toNat : Int) ≤ 57))) (fun r => Out.ret r) (fun x12 =>
            bif x12 then
              .cont ()
            else
              .ret false)
        else
          loopE (loopM (B_s_l3Bytes_1 p_s p_more k3) (p_more.length - 0) 0 (false)) (fun r => Out.ret r) (fun x15 =>
            bif x15 then
              .cont ()
            else
              .ret false)
    else
      bif decide (48 ≤ ((p_s.getD k3 0).toNat : Int)) then
        loopE (loopM (B_s_l3Bytes_1 p_s p_more k3) (p_more.length - 0) 0 (decide (((p_s.getD k3 0).toNat : Int) ≤ 57))) (fun r => Out.ret r) (fun x19 =>
          bif x19 then
            .cont ()
          else
            .ret false)
      else
        loopE (loopM (B_s_l3Bytes_1 p_s p_more k3) (p_more.length - 0) 0 (false)) (fun r => Out.ret r) (fun x22 =>
          bif x22 then
            .cont ()
          else
            .ret false)
def s_l3Bytes (p_s : Str) (p_more : Str) : Bool :=
  loopE (loopM (B_s_l3Bytes_0 p_s p_more) (p_s.length - 0) 0 ()) (fun r => r) (fun _ =>
    true)
def s_l3Key (p_s : Str) : Bool :=
  bif s_l1In (p_s.length : Int) 1 12 then
    (s_l3Bytes p_s ([46, 47] : Str))
  else
    false
def s_l3Val (p_s : Str) : Bool :=
  bif decide ((p_s.length : Int) ≤ 24) then
    (s_l3Bytes p_s ([46, 45, 44, 95] : Str))
  else
    false
def s_l3Write (p_key : Str) (p_val : Str) (p_gone : Bool) : Bool :=
  bif s_l3Key p_key then
    bif s_l3Val p_val then
      bif p_gone then
        p_val == ([] : Str)
      else
        true
    else
      false
  else
    false
def B_s_l3Cell_0 (p_c : DCell) (k9 : Nat) : Unit → Out Bool Unit
  | () => bif s_l3Time ((p_c.Vers.getD k9 d_Ver).Time) then
      bif s_l3Write p_c.Key ((p_c.Vers.getD k9 d_Ver).Val) ((p_c.Vers.getD k9 d_Ver).Gone) then
        bif decide (0 < (k9 : Int)) then
          bif decide (((p_c.Vers.getD k9 d_Ver).Time) ≤ ((p_c.Vers.getD ((IntKind.wrap .i64 ((k9 : Int) - 1)).toNat) d_Ver).Time)) then
            .ret false
          else
            .cont ()
        else
          .cont ()
      else
        .ret false
    else
      .ret false
def s_l3Cell (p_c : DCell) : Bool :=
  loopE (loopM (B_s_l3Cell_0 p_c) (p_c.Vers.length - 0) 0 ()) (fun r => r) (fun _ =>
    bif s_l3Key p_c.Key then
      (s_l1In (p_c.Vers.length : Int) 1 16)
    else
      false)
def B_s_l3Good_0 (p_l : List DCell) (k3 : Nat) : Unit → Out Bool Unit
  | () => bif s_l3Cell (p_l.getD k3 d_Cell) then
      bif decide (0 < (k3 : Int)) then
        bif sLt ((p_l.getD ((IntKind.wrap .i64 ((k3 : Int) - 1)).toNat) d_Cell).Key) ((p_l.getD k3 d_Cell).Key) then
          .cont ()
        else
          .ret false
      else
        .cont ()
    else
      .ret false
def s_l3Good (p_l : List DCell) : Bool :=
  loopE (loopM (B_s_l3Good_0 p_l) (p_l.length - 0) 0 ()) (fun r => r) (fun _ =>
    decide ((p_l.length : Int) ≤ 24))
def s_l2True (p_t : Int) : Bool :=
  (s_l1In p_t 0 100000)
def B_s_l3Ver_0 (p_c : DCell) (p_time : Int) (k21 : Nat) : Bool × Int × Str × Bool → Out (DVer × Bool) (Bool × Int × Str × Bool)
  | (x37, x38, x39, x40) => bif decide (((p_c.Vers.getD k21 d_Ver).Time) ≤ p_time) then
      .cont (true, (p_c.Vers.getD k21 d_Ver).Time, (p_c.Vers.getD k21 d_Ver).Val, (p_c.Vers.getD k21 d_Ver).Gone)
    else
      .cont (x37, x38, x39, x40)
def s_l3Ver (p_c : DCell) (p_time : Int) : DVer × Bool :=
  loopE (loopM (B_s_l3Ver_0 p_c p_time) (p_c.Vers.length - 0) 0 (false, 0, ([] : Str), false)) (fun r => r) (fun (x37, x38, x39, x40) =>
    ((⟨x38, x39, x40⟩ : DVer), x37))
def B_s_l3All_0 (p_l : List DCell) (p_time : Int) (k3 : Nat) : (List DWrite) → Out (List DWrite) (List DWrite)
  | (x85) => bif (s_l3Ver (p_l.getD k3 d_Cell) p_time).2 then
      bif (s_l3Ver (p_l.getD k3 d_Cell) p_time).1.Gone then
        .cont (x85)
      else
        .cont ((x85 ++ ([(⟨(p_l.getD k3 d_Cell).Key, (s_l3Ver (p_l.getD k3 d_Cell) p_time).1.Val, false⟩ : DWrite)] : List DWrite)))
    else
      .cont (x85)
def s_l3All (p_l : List DCell) (p_time : Int) : List DWrite :=
  loopE (loopM (B_s_l3All_0 p_l p_time) (p_l.length - 0) 0 (([] : List DWrite))) (fun r => r) (fun x85 =>
    x85)
def s_CellsAt (p_l : List DCell) (p_time : Int) : (List DWrite) × Bool :=
  bif s_l3Good p_l then
    bif s_l2True p_time then
      ((s_l3All p_l p_time), true)
    else
      (([] : List DWrite), false)
  else
    (([] : List DWrite), false)
def s_CopyAt (p_l : List DCell) (p_time : Int) : DCopy × Bool :=
  bif (s_CellsAt p_l p_time).2 then
    ((⟨p_time, (s_CellsAt p_l p_time).1⟩ : DCopy), true)
  else
    ((⟨0, []⟩ : DCopy), false)
def l_toVer (p_a : DVer) : DVer :=
  p_a
def B_l_toVerS_0 (p_a : List DVer) (k10 : Nat) : (List DVer) → Out (List DVer) (List DVer)
  | (x21) => .cont ((x21.set k10 (p_a.getD k10 d_Ver)))
def l_toVerS (p_a : List DVer) : List DVer :=
  loopE (loopM (B_l_toVerS_0 p_a) (p_a.length - 0) 0 ((List.replicate p_a.length d_Ver))) (fun r => r) (fun x21 =>
    x21)
def l_toCell (p_a : DCell) : DCell :=
  p_a
def B_l_toCellS_0 (p_a : List DCell) (k10 : Nat) : (List DCell) → Out (List DCell) (List DCell)
  | (x26) => .cont ((x26.set k10 (p_a.getD k10 d_Cell)))
def l_toCellS (p_a : List DCell) : List DCell :=
  loopE (loopM (B_l_toCellS_0 p_a) (p_a.length - 0) 0 ((List.replicate p_a.length d_Cell))) (fun r => r) (fun x26 =>
    x26)
def i_within (p_n : Int) (p_low : Int) (p_high : Int) : Bool :=
  bif decide (p_low ≤ p_n) then
    decide (p_n ≤ p_high)
  else
    false
def i_isTime (p_t : Int) : Bool :=
  (i_within p_t 1 100000)
def i_isLowerOrDigit (p_b : Int) : Bool :=
  bif decide (97 ≤ p_b) then
    bif decide (p_b ≤ 122) then
      true
    else
      bif decide (48 ≤ p_b) then
        decide (p_b ≤ 57)
      else
        false
  else
    bif decide (48 ≤ p_b) then
      decide (p_b ≤ 57)
    else
      false
def g_internal_stringslite_IndexByte (p_s : Str) (p_c : Int) : Int :=
  idxB p_s p_c
def g_strings_IndexByte (p_s : Str) (p_c : Int) : Int :=
  (g_internal_stringslite_IndexByte p_s p_c)
def B_i_hasBytes_0 (p_s : Str) (p_others : Str) (k3 : Nat) : Unit → Out Bool Unit
  | () => bif i_isLowerOrDigit ((p_s.getD k3 0).toNat : Int) then
      .cont ()
    else
      bif decide ((g_strings_IndexByte p_others ((p_s.getD k3 0).toNat : Int)) < 0) then
        .ret false
      else
        .cont ()
def i_hasBytes (p_s : Str) (p_others : Str) : Bool :=
  loopE (loopM (B_i_hasBytes_0 p_s p_others) (p_s.length - 0) 0 ()) (fun r => r) (fun _ =>
    true)
def i_GoodVal (p_s : Str) : Bool :=
  bif decide ((p_s.length : Int) ≤ 24) then
    (i_hasBytes p_s ([46, 45, 44, 95] : Str))
  else
    false
def i_isStored (p_val : Str) (p_gone : Bool) : Bool :=
  bif i_GoodVal p_val then
    bif p_gone then
      !(!(p_val == ([] : Str)))
    else
      !false
  else
    false
def B_i_isCell_0 (p_c : DCell) (k9 : Nat) : Unit → Out Bool Unit
  | () => bif i_isTime ((p_c.Vers.getD k9 d_Ver).Time) then
      bif i_isStored ((p_c.Vers.getD k9 d_Ver).Val) ((p_c.Vers.getD k9 d_Ver).Gone) then
        bif decide (0 < (k9 : Int)) then
          bif decide (((p_c.Vers.getD k9 d_Ver).Time) ≤ ((p_c.Vers.getD ((IntKind.wrap .i64 ((k9 : Int) - 1)).toNat) d_Ver).Time)) then
            .ret false
          else
            .cont ()
        else
          .cont ()
      else
        .ret false
    else
      .ret false
def i_isCell (p_c : DCell) : Bool :=
  loopE (loopM (B_i_isCell_0 p_c) (p_c.Vers.length - 0) 0 ()) (fun r => r) (fun _ =>
    (i_within (p_c.Vers.length : Int) 1 16))
def i_GoodKey (p_s : Str) : Bool :=
  bif i_within (p_s.length : Int) 1 12 then
    (i_hasBytes p_s ([46, 47] : Str))
  else
    false
def B_i_areRising_0 (p_keys : List Str) (k3 : Nat) : Unit → Out Bool Unit
  | () => bif i_GoodKey (p_keys.getD k3 d_Str) then
      bif decide (0 < (k3 : Int)) then
        bif sLe (p_keys.getD k3 d_Str) (p_keys.getD ((IntKind.wrap .i64 ((k3 : Int) - 1)).toNat) d_Str) then
          .ret false
        else
          .cont ()
      else
        .cont ()
    else
      .ret false
def i_areRising (p_keys : List Str) : Bool :=
  loopE (loopM (B_i_areRising_0 p_keys) (p_keys.length - 0) 0 ()) (fun r => r) (fun _ =>
    true)
def B_i_GoodCells_0 (p_l : List DCell) (k10 : Nat) : (List Str) → Out Bool (List Str)
  | (x70) => bif i_isCell (p_l.getD k10 d_Cell) then
      .cont ((x70 ++ ([(p_l.getD k10 d_Cell).Key] : List Str)))
    else
      .ret false
def i_GoodCells (p_l : List DCell) : Bool :=
  loopE (loopM (B_i_GoodCells_0 p_l) (p_l.length - 0) 0 (([] : List Str))) (fun r => r) (fun x70 =>
    bif decide ((p_l.length : Int) ≤ 24) then
      (i_areRising x70)
    else
      false)
def i_isTrue (p_now : Int) : Bool :=
  (i_within p_now 0 100000)
def dwn (n k : Nat) : List Nat := (List.range k).map fun j => n - 1 - j
def i_Cell_at (p_c : DCell) (p_time : Int) : Str × Bool :=
  match (dwn p_c.Vers.length p_c.Vers.length).find? (fun x => decide ((p_c.Vers.getD x d_Ver).Time ≤ p_time)) with
  | some x => ((p_c.Vers.getD x d_Ver).Val, !(p_c.Vers.getD x d_Ver).Gone)
  | none => ([], false)
def B_i_cellsAt_0 (p_l : List DCell) (p_time : Int) (k10 : Nat) : (List DWrite) → Out (List DWrite) (List DWrite)
  | (x72) => bif (i_Cell_at (p_l.getD k10 d_Cell) p_time).2 then
      .cont ((x72 ++ ([(⟨(p_l.getD k10 d_Cell).Key, (i_Cell_at (p_l.getD k10 d_Cell) p_time).1, false⟩ : DWrite)] : List DWrite)))
    else
      .cont (x72)
def i_cellsAt (p_l : List DCell) (p_time : Int) : List DWrite :=
  loopE (loopM (B_i_cellsAt_0 p_l p_time) (p_l.length - 0) 0 (([] : List DWrite))) (fun r => r) (fun x72 =>
    x72)
def i_CopyAt (p_l : List DCell) (p_time : Int) : DCopy × Bool :=
  bif i_GoodCells p_l then
    bif i_isTrue p_time then
      ((⟨p_time, (i_cellsAt p_l p_time)⟩ : DCopy), true)
    else
      ((⟨0, []⟩ : DCopy), false)
  else
    ((⟨0, []⟩ : DCopy), false)
def l_eqWrite (p_a : DWrite) (p_b : DWrite) : Bool :=
  bif p_a.Key == p_b.Key then
    bif p_a.Val == p_b.Val then
      bif p_a.Gone == p_b.Gone then
        true
      else
        false
    else
      false
  else
    false
def B_l_eqWriteS_0 (p_a : List DWrite) (p_b : List DWrite) (k4 : Nat) : Unit → Out Bool Unit
  | () => bif l_eqWrite (p_a.getD k4 d_Write) (p_b.getD k4 d_Write) then
      .cont ()
    else
      .ret false
def l_eqWriteS (p_a : List DWrite) (p_b : List DWrite) : Bool :=
  bif decide ((p_a.length : Int) = (p_b.length : Int)) then
    loopE (loopM (B_l_eqWriteS_0 p_a p_b) (p_a.length - 0) 0 ()) (fun r => r) (fun _ =>
      true)
  else
    false
def l_eqCopy (p_a : DCopy) (p_b : DCopy) : Bool :=
  bif decide (p_a.Time = p_b.Time) then
    bif l_eqWriteS p_a.Rows p_b.Rows then
      true
    else
      false
  else
    false
def l_eqVer (p_a : DVer) (p_b : DVer) : Bool :=
  bif decide (p_a.Time = p_b.Time) then
    bif p_a.Val == p_b.Val then
      bif p_a.Gone == p_b.Gone then
        true
      else
        false
    else
      false
  else
    false
def B_l_eqVerS_0 (p_a : List DVer) (p_b : List DVer) (k4 : Nat) : Unit → Out Bool Unit
  | () => bif l_eqVer (p_a.getD k4 d_Ver) (p_b.getD k4 d_Ver) then
      .cont ()
    else
      .ret false
def l_eqVerS (p_a : List DVer) (p_b : List DVer) : Bool :=
  bif decide ((p_a.length : Int) = (p_b.length : Int)) then
    loopE (loopM (B_l_eqVerS_0 p_a p_b) (p_a.length - 0) 0 ()) (fun r => r) (fun _ =>
      true)
  else
    false
def l_eqCell (p_a : DCell) (p_b : DCell) : Bool :=
  bif p_a.Key == p_b.Key then
    bif l_eqVerS p_a.Vers p_b.Vers then
      true
    else
      false
  else
    false
def B_l_eqCellS_0 (p_a : List DCell) (p_b : List DCell) (k4 : Nat) : Unit → Out Bool Unit
  | () => bif l_eqCell (p_a.getD k4 d_Cell) (p_b.getD k4 d_Cell) then
      .cont ()
    else
      .ret false
def l_eqCellS (p_a : List DCell) (p_b : List DCell) : Bool :=
  bif decide ((p_a.length : Int) = (p_b.length : Int)) then
    loopE (loopM (B_l_eqCellS_0 p_a p_b) (p_a.length - 0) 0 ()) (fun r => r) (fun _ =>
      true)
  else
    false
def B_l_markText_0 (p_k : Int) : Int × Str → Out Str (Int × Str)
  | (x15, x16) => bif decide (0 < x15) then
      .cont (IntKind.wrap .i64 (Int.tdiv x15 10), (toS ([IntKind.wrap .u8 (IntKind.wrap .i64 (48 + (Int.tmod x15 10)))] : List Int)) ++ x16)
    else
      .brk (x15, x16)
def l_markText (p_k : Int) : Str :=
  bif decide (p_k ≤ 0) then
    ([109, 48] : Str)
  else
    loopE (loopW (B_l_markText_0 p_k) ((((p_k).toNat + 1) / 2) + 1) (p_k, ([] : Str))) (fun r => r) (fun (x15, x16) =>
      ([109] : Str) ++ x16)
def B_l_markVerS_0 (p_a : List DVer) (p_k : Int) (k3 : Nat) : Int × (List DVer) → Out (Int × (List DVer)) (Int × (List DVer))
  | (x26, x27) => .cont (IntKind.wrap .i64 ((IntKind.wrap .i64 ((IntKind.wrap .i64 (x26 + 1)) + 1)) + 1), (x27.set k3 (⟨x26, (l_markText (IntKind.wrap .i64 (x26 + 1))), decide ((Int.tmod (IntKind.wrap .i64 ((IntKind.wrap .i64 (x26 + 1)) + 1)) 3) = 0)⟩ : DVer)))
def l_markVerS (p_a : List DVer) (p_k : Int) : Int × (List DVer) :=
  loopE (loopM (B_l_markVerS_0 p_a p_k) (p_a.length - 0) 0 (p_k, p_a)) (fun r => r) (fun (x26, x27) =>
    (x26, x27))
def B_l_markCellS_0 (p_a : List DCell) (p_k : Int) (k3 : Nat) : Int × (List DCell) → Out (Int × (List DCell)) (Int × (List DCell))
  | (x19, x20) => .cont ((l_markVerS ((x20.getD k3 d_Cell).Vers) (IntKind.wrap .i64 (x19 + 1))).1, (x20.set k3 (⟨(l_markText x19), (l_markVerS ((x20.getD k3 d_Cell).Vers) (IntKind.wrap .i64 (x19 + 1))).2⟩ : DCell)))
def l_markCellS (p_a : List DCell) (p_k : Int) : Int × (List DCell) :=
  loopE (loopM (B_l_markCellS_0 p_a p_k) (p_a.length - 0) 0 (p_k, p_a)) (fun r => r) (fun (x19, x20) =>
    (x19, x20))
def B_l_markWriteS_0 (p_a : List DWrite) (p_k : Int) (k3 : Nat) : Int × (List DWrite) → Out (Int × (List DWrite)) (Int × (List DWrite))
  | (x29, x30) => .cont (IntKind.wrap .i64 ((IntKind.wrap .i64 ((IntKind.wrap .i64 (x29 + 1)) + 1)) + 1), (x30.set k3 (⟨(l_markText x29), (l_markText (IntKind.wrap .i64 (x29 + 1))), decide ((Int.tmod (IntKind.wrap .i64 ((IntKind.wrap .i64 (x29 + 1)) + 1)) 3) = 0)⟩ : DWrite)))
def l_markWriteS (p_a : List DWrite) (p_k : Int) : Int × (List DWrite) :=
  loopE (loopM (B_l_markWriteS_0 p_a p_k) (p_a.length - 0) 0 (p_k, p_a)) (fun r => r) (fun (x29, x30) =>
    (x29, x30))
def l_markCopy (p_a : DCopy) (p_k : Int) : Int × DCopy :=
  ((l_markWriteS p_a.Rows p_k).1, (⟨p_a.Time, (l_markWriteS p_a.Rows p_k).2⟩ : DCopy))
def B_l_heldWriteS_0 (p_a : List DWrite) (p_k : Int) (k2 : Nat) : Int → Out Int Int
  | (x3) => bif ((p_a.getD k2 d_Write).Key) == (l_markText x3) then
      bif ((p_a.getD k2 d_Write).Val) == (l_markText (IntKind.wrap .i64 (x3 + 1))) then
        bif ((p_a.getD k2 d_Write).Gone) == (decide ((Int.tmod (IntKind.wrap .i64 ((IntKind.wrap .i64 (x3 + 1)) + 1)) 3) = 0)) then
          .cont (IntKind.wrap .i64 ((IntKind.wrap .i64 ((IntKind.wrap .i64 (x3 + 1)) + 1)) + 1))
        else
          .ret (-1)
      else
        .ret (-1)
    else
      .ret (-1)
def l_heldWriteS (p_a : List DWrite) (p_k : Int) : Int :=
  loopE (loopM (B_l_heldWriteS_0 p_a p_k) (p_a.length - 0) 0 (p_k)) (fun r => r) (fun x3 =>
    x3)
def l_heldCopy (p_a : DCopy) (p_k : Int) : Int :=
  bif decide ((l_heldWriteS p_a.Rows p_k) < 0) then
    -1
  else
    (l_heldWriteS p_a.Rows p_k)
def l_FnExactCopyAt (p_0 : List DCell) (p_1 : Int) : Bool :=
  bif decide ((l_szCellS p_0 1048576) < 0) then
    true
  else
    bif l_eqCopy ((i_CopyAt p_0 p_1).1) ((s_CopyAt p_0 p_1).1) then
      bif ((i_CopyAt p_0 p_1).2) == ((s_CopyAt p_0 p_1).2) then
        bif l_eqCellS p_0 p_0 then
          bif decide (((l_markCellS p_0 1).1) < 0) then
            false
          else
            bif decide ((l_heldCopy (⟨(i_CopyAt p_0 p_1).1.Time, (l_markCopy ((i_CopyAt p_0 p_1).1) 1).2.Rows⟩ : DCopy) 1) < 0) then
              false
            else
              bif decide ((l_heldCopy (⟨(i_CopyAt p_0 p_1).1.Time, (l_markCopy ((i_CopyAt p_0 p_1).1) 1).2.Rows⟩ : DCopy) 1) = ((l_markCopy ((i_CopyAt p_0 p_1).1) 1).1)) then
                true
              else
                false
        else
          false
      else
        false
    else
      false
def B_l_heldVerS_0 (p_a : List DVer) (p_k : Int) (k2 : Nat) : Int → Out Int Int
  | (x3) => bif decide (((p_a.getD k2 d_Ver).Time) = x3) then
      bif ((p_a.getD k2 d_Ver).Val) == (l_markText (IntKind.wrap .i64 (x3 + 1))) then
        bif ((p_a.getD k2 d_Ver).Gone) == (decide ((Int.tmod (IntKind.wrap .i64 ((IntKind.wrap .i64 (x3 + 1)) + 1)) 3) = 0)) then
          .cont (IntKind.wrap .i64 ((IntKind.wrap .i64 ((IntKind.wrap .i64 (x3 + 1)) + 1)) + 1))
        else
          .ret (-1)
      else
        .ret (-1)
    else
      .ret (-1)
def l_heldVerS (p_a : List DVer) (p_k : Int) : Int :=
  loopE (loopM (B_l_heldVerS_0 p_a p_k) (p_a.length - 0) 0 (p_k)) (fun r => r) (fun x3 =>
    x3)
def B_l_heldCellS_0 (p_a : List DCell) (p_k : Int) (k2 : Nat) : Int → Out Int Int
  | (x3) => bif ((p_a.getD k2 d_Cell).Key) == (l_markText x3) then
      bif decide ((l_heldVerS ((p_a.getD k2 d_Cell).Vers) (IntKind.wrap .i64 (x3 + 1))) < 0) then
        .ret (-1)
      else
        .cont ((l_heldVerS ((p_a.getD k2 d_Cell).Vers) (IntKind.wrap .i64 (x3 + 1))))
    else
      .ret (-1)
def l_heldCellS (p_a : List DCell) (p_k : Int) : Int :=
  loopE (loopM (B_l_heldCellS_0 p_a p_k) (p_a.length - 0) 0 (p_k)) (fun r => r) (fun x3 =>
    x3)
end Go.Proofs.Ytbglfhmnjbgciaa
