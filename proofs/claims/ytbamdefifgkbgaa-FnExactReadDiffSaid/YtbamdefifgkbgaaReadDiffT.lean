/- Read Diff: the plain forms of the values, and plain models of the functions. -/
import Derived.Test.YtbamdefifgkbgaaE20
set_option linter.unusedVariables false
set_option linter.unusedSimpArgs false
namespace Go.Proofs.Ytbamdefifgkbgaa
open Go.RowKit Go.X
structure DL1R where
  b : Str
  at_ : Int
  bad : Bool
def d_L1R : DL1R := ⟨[], 0, false⟩
def wf_L1R (x : DL1R) : Prop := wfS x.b ∧ wfI x.at_
def ok_L1R (x : DL1R) : Prop := okS x.b
theorem ok_d_L1R : ok_L1R d_L1R := ok_d_Str
def e_L1R (x : DL1R) : List Value := [.string (bs x.b), .int .i64 x.at_, .bool x.bad]
theorem good_L1R : Gd (RF e_L1R) := RF.good fun _ => rfl
structure DFeedItem where
  Time : Int
  Group : Int
  Key : Str
  Val : Str
  Gone : Bool
def d_FeedItem : DFeedItem := ⟨0, 0, [], [], false⟩
def wf_FeedItem (x : DFeedItem) : Prop := wfI x.Time ∧ wfI x.Group ∧ wfS x.Key ∧ wfS x.Val
def ok_FeedItem (x : DFeedItem) : Prop := okS x.Key ∧ okS x.Val
theorem ok_d_FeedItem : ok_FeedItem d_FeedItem := ⟨ok_d_Str, ok_d_Str⟩
def e_FeedItem (x : DFeedItem) : List Value := [.int .i64 x.Time, .int .i64 x.Group, .string (bs x.Key), .string (bs x.Val), .bool x.Gone]
theorem good_FeedItem : Gd (RF e_FeedItem) := RF.good fun _ => rfl
structure DDiff where
  From : Int
  To : Int
  List : List DFeedItem
def d_Diff : DDiff := ⟨0, 0, []⟩
def wf_Diff (x : DDiff) : Prop := wfI x.From ∧ wfI x.To ∧ (wfL wf_FeedItem) x.List
def ok_Diff (x : DDiff) : Prop := (okL ok_FeedItem) x.List
theorem ok_d_Diff : ok_Diff d_Diff := okL.nil _
def R_Diff : Rel DDiff := fun w S cs x => ∃ A1 c1, cs = [.int .i64 x.From, .int .i64 x.To, .slice A1 x.List.length c1] ∧ RdS w S (RF e_FeedItem) 5 A1 x.List.length c1 x.List
def RO_Diff : RelO DDiff := fun w l h cs x => ∃ A1 c1 lo1 hi1, cs = [.int .i64 x.From, .int .i64 x.To, .slice A1 x.List.length c1] ∧ OwnL w lo1 hi1 63 5 (RF e_FeedItem) A1 x.List.length c1 x.List ∧ (l ≤ lo1 ∧ lo1 ≤ hi1 ∧ hi1 ≤ h)
theorem good_Diff : Gd R_Diff := ⟨fun ⟨A1, c1, he, h0⟩ hk => ⟨A1, c1, he, RdS.keep good_FeedItem h0 hk⟩, fun ⟨A1, c1, he, h0⟩ hw => ⟨A1, c1, he, RdS.wide good_FeedItem h0 hw⟩, fun ⟨A1, c1, he, h0⟩ => by rw [he]; rfl⟩
theorem goodO_Diff : GdO RO_Diff R_Diff := ⟨fun ⟨A1, c1, lo1, hi1, he, h1, r0⟩ hk => ⟨A1, c1, lo1, hi1, he, OwnL.keep good_FeedItem h1 (fun b b1 b2 b3 => hk b (by omega) (by omega) b3), r0⟩, fun ⟨A1, c1, lo1, hi1, he, h1, r0⟩ => by rw [he]; rfl, fun ⟨A1, c1, lo1, hi1, he, h1, r0⟩ => ⟨A1, c1, he, RdS.wide good_FeedItem (OwnL.rdI good_FeedItem h1) (fun b hb _ => ⟨by have := hb.1; omega, by have := hb.2; omega⟩)⟩⟩
theorem mkO_Diff {w : World} {l h : Nat} {z0 : Int} {z1 : Int} {lo1 hi1 n1 c1 : Nat} {A1 : Option Addr} {y1 : List DFeedItem} (h1 : OwnL w lo1 hi1 63 5 (RF e_FeedItem) A1 n1 c1 y1) (r0 : (l ≤ lo1 ∧ lo1 ≤ hi1 ∧ hi1 ≤ h)) : RO_Diff w l h [.int .i64 z0, .int .i64 z1, .slice A1 n1 c1] ⟨z0, z1, y1⟩ := by
  obtain rfl := h1.1
  exact ⟨A1, c1, lo1, hi1, rfl, h1, r0⟩
structure DSource where
  b : Str
  at_ : Int
  failed : Bool
def d_Source : DSource := ⟨[], 0, false⟩
def wf_Source (x : DSource) : Prop := wfS x.b ∧ wfI x.at_
def ok_Source (x : DSource) : Prop := okS x.b
theorem ok_d_Source : ok_Source d_Source := ok_d_Str
def e_Source (x : DSource) : List Value := [.string (bs x.b), .int .i64 x.at_, .bool x.failed]
theorem good_Source : Gd (RF e_Source) := RF.good fun _ => rfl
structure DWrite where
  Key : Str
  Val : Str
  Gone : Bool
def d_Write : DWrite := ⟨[], [], false⟩
def wf_Write (x : DWrite) : Prop := wfS x.Key ∧ wfS x.Val
def ok_Write (x : DWrite) : Prop := okS x.Key ∧ okS x.Val
theorem ok_d_Write : ok_Write d_Write := ⟨ok_d_Str, ok_d_Str⟩
def e_Write (x : DWrite) : List Value := [.string (bs x.Key), .string (bs x.Val), .bool x.Gone]
theorem good_Write : Gd (RF e_Write) := RF.good fun _ => rfl
structure DVer where
  Time : Int
  Val : Str
  Gone : Bool
def d_Ver : DVer := ⟨0, [], false⟩
def wf_Ver (x : DVer) : Prop := wfI x.Time ∧ wfS x.Val
def ok_Ver (x : DVer) : Prop := okS x.Val
theorem ok_d_Ver : ok_Ver d_Ver := ok_d_Str
def e_Ver (x : DVer) : List Value := [.int .i64 x.Time, .string (bs x.Val), .bool x.Gone]
theorem good_Ver : Gd (RF e_Ver) := RF.good fun _ => rfl
structure DCell where
  Key : Str
  Vers : List DVer
def d_Cell : DCell := ⟨[], []⟩
def wf_Cell (x : DCell) : Prop := wfS x.Key ∧ (wfL wf_Ver) x.Vers
def ok_Cell (x : DCell) : Prop := okS x.Key ∧ (okL ok_Ver) x.Vers
theorem ok_d_Cell : ok_Cell d_Cell := ⟨ok_d_Str, okL.nil _⟩
def R_Cell : Rel DCell := fun w S cs x => ∃ A1 c1, cs = [.string (bs x.Key), .slice A1 x.Vers.length c1] ∧ RdS w S (RF e_Ver) 3 A1 x.Vers.length c1 x.Vers
def RO_Cell : RelO DCell := fun w l h cs x => ∃ A1 c1 lo1 hi1, cs = [.string (bs x.Key), .slice A1 x.Vers.length c1] ∧ OwnL w lo1 hi1 103 3 (RF e_Ver) A1 x.Vers.length c1 x.Vers ∧ (l ≤ lo1 ∧ lo1 ≤ hi1 ∧ hi1 ≤ h)
theorem good_Cell : Gd R_Cell := ⟨fun ⟨A1, c1, he, h0⟩ hk => ⟨A1, c1, he, RdS.keep good_Ver h0 hk⟩, fun ⟨A1, c1, he, h0⟩ hw => ⟨A1, c1, he, RdS.wide good_Ver h0 hw⟩, fun ⟨A1, c1, he, h0⟩ => by rw [he]; rfl⟩
theorem goodO_Cell : GdO RO_Cell R_Cell := ⟨fun ⟨A1, c1, lo1, hi1, he, h1, r0⟩ hk => ⟨A1, c1, lo1, hi1, he, OwnL.keep good_Ver h1 (fun b b1 b2 b3 => hk b (by omega) (by omega) b3), r0⟩, fun ⟨A1, c1, lo1, hi1, he, h1, r0⟩ => by rw [he]; rfl, fun ⟨A1, c1, lo1, hi1, he, h1, r0⟩ => ⟨A1, c1, he, RdS.wide good_Ver (OwnL.rdI good_Ver h1) (fun b hb _ => ⟨by have := hb.1; omega, by have := hb.2; omega⟩)⟩⟩
theorem mkO_Cell {w : World} {l h : Nat} {z0 : Str} {lo1 hi1 n1 c1 : Nat} {A1 : Option Addr} {y1 : List DVer} (h1 : OwnL w lo1 hi1 103 3 (RF e_Ver) A1 n1 c1 y1) (r0 : (l ≤ lo1 ∧ lo1 ≤ hi1 ∧ hi1 ≤ h)) : RO_Cell w l h [.string (bs z0), .slice A1 n1 c1] ⟨z0, y1⟩ := by
  obtain rfl := h1.1
  exact ⟨A1, c1, lo1, hi1, rfl, h1, r0⟩
structure DBoundsError where
  x : Int
  y : Int
  signed : Bool
  code : Int
def d_BoundsError : DBoundsError := ⟨0, 0, false, 0⟩
def wf_BoundsError (x : DBoundsError) : Prop := wfI x.x ∧ wfI x.y ∧ wfI x.code
def e_BoundsError (x : DBoundsError) : List Value := [.int .i64 x.x, .int .i64 x.y, .bool x.signed, .int .u8 x.code]
theorem good_BoundsError : Gd (RF e_BoundsError) := RF.good fun _ => rfl
structure DErrorAddressString where
  msg : Str
  addr : Int
def d_ErrorAddressString : DErrorAddressString := ⟨[], 0⟩
def wf_ErrorAddressString (x : DErrorAddressString) : Prop := wfS x.msg ∧ wfI x.addr
def ok_ErrorAddressString (x : DErrorAddressString) : Prop := okS x.msg
theorem ok_d_ErrorAddressString : ok_ErrorAddressString d_ErrorAddressString := ok_d_Str
def e_ErrorAddressString (x : DErrorAddressString) : List Value := [.string (bs x.msg), .int .u64 x.addr]
theorem good_ErrorAddressString : Gd (RF e_ErrorAddressString) := RF.good fun _ => rfl
structure DCopy where
  Time : Int
  Rows : List DWrite
def d_Copy : DCopy := ⟨0, []⟩
def wf_Copy (x : DCopy) : Prop := wfI x.Time ∧ (wfL wf_Write) x.Rows
def ok_Copy (x : DCopy) : Prop := (okL ok_Write) x.Rows
theorem ok_d_Copy : ok_Copy d_Copy := okL.nil _
def R_Copy : Rel DCopy := fun w S cs x => ∃ A1 c1, cs = [.int .i64 x.Time, .slice A1 x.Rows.length c1] ∧ RdS w S (RF e_Write) 3 A1 x.Rows.length c1 x.Rows
def RO_Copy : RelO DCopy := fun w l h cs x => ∃ A1 c1 lo1 hi1, cs = [.int .i64 x.Time, .slice A1 x.Rows.length c1] ∧ OwnL w lo1 hi1 53 3 (RF e_Write) A1 x.Rows.length c1 x.Rows ∧ (l ≤ lo1 ∧ lo1 ≤ hi1 ∧ hi1 ≤ h)
theorem good_Copy : Gd R_Copy := ⟨fun ⟨A1, c1, he, h0⟩ hk => ⟨A1, c1, he, RdS.keep good_Write h0 hk⟩, fun ⟨A1, c1, he, h0⟩ hw => ⟨A1, c1, he, RdS.wide good_Write h0 hw⟩, fun ⟨A1, c1, he, h0⟩ => by rw [he]; rfl⟩
theorem goodO_Copy : GdO RO_Copy R_Copy := ⟨fun ⟨A1, c1, lo1, hi1, he, h1, r0⟩ hk => ⟨A1, c1, lo1, hi1, he, OwnL.keep good_Write h1 (fun b b1 b2 b3 => hk b (by omega) (by omega) b3), r0⟩, fun ⟨A1, c1, lo1, hi1, he, h1, r0⟩ => by rw [he]; rfl, fun ⟨A1, c1, lo1, hi1, he, h1, r0⟩ => ⟨A1, c1, he, RdS.wide good_Write (OwnL.rdI good_Write h1) (fun b hb _ => ⟨by have := hb.1; omega, by have := hb.2; omega⟩)⟩⟩
theorem mkO_Copy {w : World} {l h : Nat} {z0 : Int} {lo1 hi1 n1 c1 : Nat} {A1 : Option Addr} {y1 : List DWrite} (h1 : OwnL w lo1 hi1 53 3 (RF e_Write) A1 n1 c1 y1) (r0 : (l ≤ lo1 ∧ lo1 ≤ hi1 ∧ hi1 ≤ h)) : RO_Copy w l h [.int .i64 z0, .slice A1 n1 c1] ⟨z0, y1⟩ := by
  obtain rfl := h1.1
  exact ⟨A1, c1, lo1, hi1, rfl, h1, r0⟩
def s_l1Three (p_n : Int) : Str :=
  toS ([IntKind.wrap .u8 (IntKind.wrap .i64 (Int.tdiv p_n 65536)), IntKind.wrap .u8 (Int.tmod (IntKind.wrap .i64 (Int.tdiv p_n 256)) 256), IntKind.wrap .u8 (Int.tmod p_n 256)] : List Int)
def B_s_l1Sum_0 (p_b : Str) (k2 : Nat) : Int → Out Int Int
  | (x3) => .cont (Int.tmod (IntKind.wrap .i64 ((IntKind.wrap .i64 ((IntKind.wrap .i64 (31 * x3)) + (IntKind.wrap .i64 ((p_b.getD k2 0).toNat : Int)))) + 1)) 16000057)
def s_l1Sum (p_b : Str) : Int :=
  loopE (loopM (B_s_l1Sum_0 p_b) (p_b.length - 0) 0 (7)) (fun r => r) (fun x3 =>
    x3)
def s_l1Seal (p_b : Str) : Str :=
  p_b ++ (s_l1Three (s_l1Sum p_b))
def s_OpenSeal (p_b : Str) : Str × Bool :=
  bif decide ((IntKind.wrap .i64 ((p_b.length : Int) - 3)) < 0) then
    (([] : Str), false)
  else
    bif decide (6000 < (p_b.length : Int)) then
      (([] : Str), false)
    else
      bif (s_l1Seal (p_b.take ((IntKind.wrap .i64 ((p_b.length : Int) - 3)).toNat))) == p_b then
        ((p_b.take ((IntKind.wrap .i64 ((p_b.length : Int) - 3)).toNat)), true)
      else
        (([] : Str), false)
def s_l1R_one (p_r_b : Str) (p_r : Int × Bool) : Int × (Int × Bool) :=
  bif p_r.2 then
    (0, (p_r.1, true))
  else
    bif decide ((p_r_b.length : Int) ≤ p_r.1) then
      (0, (p_r.1, true))
    else
      (IntKind.wrap .i64 ((p_r_b.getD (IntKind.wrap .i64 ((IntKind.wrap .i64 (p_r.1 + 1)) - 1)).toNat 0).toNat : Int), (IntKind.wrap .i64 (p_r.1 + 1), p_r.2))
def B_s_l1NumB_0 (p_n : Int) : Int × (List Int) → Out Str (Int × (List Int))
  | (x20, x21) => bif decide (128 ≤ x20) then
      .cont (IntKind.wrap .i64 (Int.tdiv x20 128), (x21 ++ ([IntKind.wrap .u8 (IntKind.wrap .i64 ((Int.tmod x20 128) + 128))] : List Int)))
    else
      .brk (x20, x21)
def s_l1NumB (p_n : Int) : Str :=
  loopE (loopW (B_s_l1NumB_0 p_n) (((p_n).toNat) + 1) (p_n, ([] : List Int))) (fun r => r) (fun (x20, x21) =>
    toS (x21 ++ ([IntKind.wrap .u8 x20] : List Int)))
def B_s_l1R_num_0 (p_r_b : Str) (p_r : Int × Bool) (k4 : Nat) : Int × Int × Int × Bool → Out (Int × (Int × Bool)) (Int × Int × Int × Bool)
  | (x14, x15, x16, x17) => bif decide (((s_l1R_one p_r_b (x16, x17)).1) < 128) then
      .brk (IntKind.wrap .i64 (x14 + (IntKind.wrap .i64 ((Int.tmod ((s_l1R_one p_r_b (x16, x17)).1) 128) * x15))), IntKind.wrap .i64 (x15 * 128), ((s_l1R_one p_r_b (x16, x17)).2).1, ((s_l1R_one p_r_b (x16, x17)).2).2)
    else
      .cont (IntKind.wrap .i64 (x14 + (IntKind.wrap .i64 ((Int.tmod ((s_l1R_one p_r_b (x16, x17)).1) 128) * x15))), IntKind.wrap .i64 (x15 * 128), ((s_l1R_one p_r_b (x16, x17)).2).1, ((s_l1R_one p_r_b (x16, x17)).2).2)
def s_l1R_num (p_r_b : Str) (p_r : Int × Bool) : Int × (Int × Bool) :=
  loopE (loopM (B_s_l1R_num_0 p_r_b p_r) (5 - 0) 0 (0, 1, p_r.1, p_r.2)) (fun r => r) (fun (x14, x15, x16, x17) =>
    bif x17 then
      (0, (x16, true))
    else
      bif decide (1000000000 < x14) then
        (0, (x16, true))
      else
        bif (s_l1NumB x14) == ((p_r_b.take ((x16).toNat)).drop ((p_r.1).toNat)) then
          (x14, (x16, x17))
        else
          (0, (x16, true)))
def s_l1R_text (p_r_b : Str) (p_r : Int × Bool) : Str × (Int × Bool) :=
  bif ((s_l1R_num p_r_b p_r).2).2 then
    (([] : Str), (((s_l1R_num p_r_b p_r).2).1, true))
  else
    bif decide (60 < ((s_l1R_num p_r_b p_r).1)) then
      (([] : Str), (((s_l1R_num p_r_b p_r).2).1, true))
    else
      bif decide ((p_r_b.length : Int) < (IntKind.wrap .i64 ((((s_l1R_num p_r_b p_r).2).1) + ((s_l1R_num p_r_b p_r).1)))) then
        (([] : Str), (((s_l1R_num p_r_b p_r).2).1, true))
      else
        (((p_r_b.take ((IntKind.wrap .i64 ((((s_l1R_num p_r_b p_r).2).1) + ((s_l1R_num p_r_b p_r).1))).toNat)).drop ((IntKind.wrap .i64 ((IntKind.wrap .i64 ((((s_l1R_num p_r_b p_r).2).1) + ((s_l1R_num p_r_b p_r).1))) - ((s_l1R_num p_r_b p_r).1))).toNat)), (IntKind.wrap .i64 ((((s_l1R_num p_r_b p_r).2).1) + ((s_l1R_num p_r_b p_r).1)), ((s_l1R_num p_r_b p_r).2).2))
def s_l1TextB (p_s : Str) : Str :=
  (s_l1NumB (p_s.length : Int)) ++ p_s
def s_l1In (p_n : Int) (p_lo : Int) (p_hi : Int) : Bool :=
  bif decide (p_lo ≤ p_n) then
    decide (p_n ≤ p_hi)
  else
    false
def B_s_l3Bytes_1 (p_s : Str) (p_more : Str) (k3 : Nat) (k6 : Nat) : Bool → Out Bool Bool
  | (x7) => bif x7 then
      .cont (true)
    else
      .cont (decide (((p_s.getD k3 0).toNat : Int) = ((p_more.getD k6 0).toNat : Int)))
def B_s_l3Bytes_0 (p_s : Str) (p_more : Str) (k3 : Nat) : Unit → Out Bool Unit
  | () => bif decide (97 ≤ ((p_s.getD k3 0).toNat : Int)) then
      bif decide (((p_s.getD k3 0).toNat : Int) ≤ 122) then
        loopE (loopM (B_s_l3Bytes_1 p_s p_more k3) (p_more.length - 0) 0 (true)) (fun r => Out.ret r) (fun x7 =>
          bif x7 then
            .cont ()
          else
            .ret false)
      else
        bif decide (48 ≤ ((p_s.getD k3 0).toNat : Int)) then
          loopE (loopM (B_s_l3Bytes_1 p_s p_more k3) (p_more.length - 0) 0 (decide (((p_s.getD k3 0).toNat : Int) ≤ 57))) (fun r => Out.ret r) (fun x12 =>
            bif x12 then
              .cont ()
            else
              .ret false)
        else
          loopE (loopM (B_s_l3Bytes_1 p_s p_more k3) (p_more.length - 0) 0 (false)) (fun r => Out.ret r) (fun x15 =>
            bif x15 then
              .cont ()
            else
              .ret false)
    else
      bif decide (48 ≤ ((p_s.getD k3 0).toNat : Int)) then
        loopE (loopM (B_s_l3Bytes_1 p_s p_more k3) (p_more.length - 0) 0 (decide (((p_s.getD k3 0).toNat : Int) ≤ 57))) (fun r => Out.ret r) (fun x19 =>
          bif x19 then
            .cont ()
          else
            .ret false)
      else
        loopE (loopM (B_s_l3Bytes_1 p_s p_more k3) (p_more.length - 0) 0 (false)) (fun r => Out.ret r) (fun x22 =>
          bif x22 then
            .cont ()
          else
            .ret false)
def s_l3Bytes (p_s : Str) (p_more : Str) : Bool :=
  loopE (loopM (B_s_l3Bytes_0 p_s p_more) (p_s.length - 0) 0 ()) (fun r => r) (fun _ =>
    true)
def s_l3Key (p_s : Str) : Bool :=
  bif s_l1In (p_s.length : Int) 1 12 then
    (s_l3Bytes p_s ([46, 47] : Str))
  else
    false
def s_l3Val (p_s : Str) : Bool :=
  bif decide ((p_s.length : Int) ≤ 24) then
    (s_l3Bytes p_s ([46, 45, 44, 95] : Str))
  else
    false
def s_l3Write (p_key : Str) (p_val : Str) (p_gone : Bool) : Bool :=
  bif s_l3Key p_key then
    bif s_l3Val p_val then
      bif p_gone then
        p_val == ([] : Str)
      else
        true
    else
      false
  else
    false
def s_l23Good (p_c : DFeedItem) : Bool :=
  bif s_l1In p_c.Time 1 100000 then
    bif s_l1In p_c.Group 0 3 then
      (s_l3Write p_c.Key p_c.Val p_c.Gone)
    else
      false
  else
    false
def s_l23Ahead (p_a : DFeedItem) (p_b : DFeedItem) : Bool :=
  bif decide (p_a.Time = p_b.Time) then
    bif decide (p_a.Group = p_b.Group) then
      sLt p_a.Key p_b.Key
    else
      decide (p_a.Group < p_b.Group)
  else
    decide (p_a.Time < p_b.Time)
def B_s_l23Feed_0 (p_l : List DFeedItem) (k3 : Nat) : Unit → Out Bool Unit
  | () => bif decide ((k3 : Int) ≤ 400) then
      bif s_l23Good (p_l.getD k3 d_FeedItem) then
        bif decide (0 < (k3 : Int)) then
          bif s_l23Ahead (p_l.getD ((IntKind.wrap .i64 ((k3 : Int) - 1)).toNat) d_FeedItem) (p_l.getD k3 d_FeedItem) then
            .cont ()
          else
            .ret false
        else
          .cont ()
      else
        .ret false
    else
      .brk ()
def s_l23Feed (p_l : List DFeedItem) : Bool :=
  loopE (loopM (B_s_l23Feed_0 p_l) (p_l.length - 0) 0 ()) (fun r => r) (fun _ =>
    decide ((p_l.length : Int) ≤ 400))
def B_s_l31Diff_0 (p_d : DDiff) (k9 : Nat) : Unit → Out Bool Unit
  | () => bif decide (((p_d.List.getD k9 d_FeedItem).Group) = 0) then
      bif s_l1In ((p_d.List.getD k9 d_FeedItem).Time) (IntKind.wrap .i64 (p_d.From + 1)) p_d.To then
        .cont ()
      else
        .ret false
    else
      .ret false
def s_l31Diff (p_d : DDiff) : Bool :=
  loopE (loopM (B_s_l31Diff_0 p_d) (p_d.List.length - 0) 0 ()) (fun r => r) (fun _ =>
    bif s_l1In p_d.From 0 p_d.To then
      bif decide (p_d.To ≤ 100000) then
        bif decide ((p_d.List.length : Int) ≤ 60) then
          (s_l23Feed p_d.List)
        else
          false
      else
        false
    else
      false)
def s_l4Flag (p_is : Bool) : Str :=
  bif p_is then
    ([1] : Str)
  else
    ([0] : Str)
def B_s_DiffBytes_0 (p_d : DDiff) (k16 : Nat) : Str → Out (Str × Bool) Str
  | (x57) => .cont ((((x57 ++ (s_l1NumB ((p_d.List.getD k16 d_FeedItem).Time))) ++ (s_l1TextB ((p_d.List.getD k16 d_FeedItem).Key))) ++ (s_l4Flag ((p_d.List.getD k16 d_FeedItem).Gone))) ++ (s_l1TextB ((p_d.List.getD k16 d_FeedItem).Val)))
def s_DiffBytes (p_d : DDiff) : Str × Bool :=
  bif s_l31Diff p_d then
    loopE (loopM (B_s_DiffBytes_0 p_d) (p_d.List.length - 0) 0 (((s_l1NumB p_d.From) ++ (s_l1NumB p_d.To)) ++ (s_l1NumB (p_d.List.length : Int)))) (fun r => r) (fun x57 =>
      bif decide (5997 < (x57.length : Int)) then
        (([] : Str), false)
      else
        ((s_l1Seal x57), true))
  else
    (([] : Str), false)
def B_s_ReadDiff_0 (p_0 : Str) : Int × Int × Bool × (List DFeedItem) → Out (DDiff × Bool) (Int × Int × Bool × (List DFeedItem))
  | (x117, x118, x119, x120) => bif decide (x117 < ((s_l1R_num ((s_OpenSeal p_0).1) ((s_l1R_num ((s_OpenSeal p_0).1) ((s_l1R_num ((s_OpenSeal p_0).1) (0, false)).2)).2)).1)) then
      bif decide (x117 < 60) then
        bif x119 then
          .brk (x117, x118, x119, x120)
        else
          .cont (IntKind.wrap .i64 (x117 + 1), ((s_l1R_text ((s_OpenSeal p_0).1) ((s_l1R_one ((s_OpenSeal p_0).1) ((s_l1R_text ((s_OpenSeal p_0).1) ((s_l1R_num ((s_OpenSeal p_0).1) (x118, x119)).2)).2)).2)).2).1, ((s_l1R_text ((s_OpenSeal p_0).1) ((s_l1R_one ((s_OpenSeal p_0).1) ((s_l1R_text ((s_OpenSeal p_0).1) ((s_l1R_num ((s_OpenSeal p_0).1) (x118, x119)).2)).2)).2)).2).2, (x120 ++ ([(⟨(s_l1R_num ((s_OpenSeal p_0).1) (x118, x119)).1, 0, (s_l1R_text ((s_OpenSeal p_0).1) ((s_l1R_num ((s_OpenSeal p_0).1) (x118, x119)).2)).1, (s_l1R_text ((s_OpenSeal p_0).1) ((s_l1R_one ((s_OpenSeal p_0).1) ((s_l1R_text ((s_OpenSeal p_0).1) ((s_l1R_num ((s_OpenSeal p_0).1) (x118, x119)).2)).2)).2)).1, decide (((s_l1R_one ((s_OpenSeal p_0).1) ((s_l1R_text ((s_OpenSeal p_0).1) ((s_l1R_num ((s_OpenSeal p_0).1) (x118, x119)).2)).2)).1) = 1)⟩ : DFeedItem)] : List DFeedItem)))
      else
        .brk (x117, x118, x119, x120)
    else
      .brk (x117, x118, x119, x120)
def s_ReadDiff (p_0 : Str) : DDiff × Bool :=
  loopE (loopW (B_s_ReadDiff_0 p_0) (((60 - (0 : Int)).toNat) + 1) (0, ((s_l1R_num ((s_OpenSeal p_0).1) ((s_l1R_num ((s_OpenSeal p_0).1) ((s_l1R_num ((s_OpenSeal p_0).1) (0, false)).2)).2)).2).1, ((s_l1R_num ((s_OpenSeal p_0).1) ((s_l1R_num ((s_OpenSeal p_0).1) ((s_l1R_num ((s_OpenSeal p_0).1) (0, false)).2)).2)).2).2, ([] : List DFeedItem))) (fun r => r) (fun (x117, x118, x119, x120) =>
    bif (s_OpenSeal p_0).2 then
      bif x119 then
        ((⟨0, 0, []⟩ : DDiff), false)
      else
        bif (s_DiffBytes (⟨(s_l1R_num ((s_OpenSeal p_0).1) (0, false)).1, (s_l1R_num ((s_OpenSeal p_0).1) ((s_l1R_num ((s_OpenSeal p_0).1) (0, false)).2)).1, x120⟩ : DDiff)).2 then
          bif ((s_DiffBytes (⟨(s_l1R_num ((s_OpenSeal p_0).1) (0, false)).1, (s_l1R_num ((s_OpenSeal p_0).1) ((s_l1R_num ((s_OpenSeal p_0).1) (0, false)).2)).1, x120⟩ : DDiff)).1) == p_0 then
            ((⟨(s_l1R_num ((s_OpenSeal p_0).1) (0, false)).1, (s_l1R_num ((s_OpenSeal p_0).1) ((s_l1R_num ((s_OpenSeal p_0).1) (0, false)).2)).1, x120⟩ : DDiff), true)
          else
            ((⟨0, 0, []⟩ : DDiff), false)
        else
          ((⟨0, 0, []⟩ : DDiff), false)
    else
      ((⟨0, 0, []⟩ : DDiff), false))
def i_within (p_n : Int) (p_low : Int) (p_high : Int) : Bool :=
  bif decide (p_low ≤ p_n) then
    decide (p_n ≤ p_high)
  else
    false
def B_i_sumOf_0 (p_b : Str) (k2 : Nat) : Int → Out Int Int
  | (x3) => .cont (Int.tmod (IntKind.wrap .i64 ((IntKind.wrap .i64 ((IntKind.wrap .i64 (31 * x3)) + (IntKind.wrap .i64 ((p_b.getD k2 0).toNat : Int)))) + 1)) 16000057)
def i_sumOf (p_b : Str) : Int :=
  loopE (loopM (B_i_sumOf_0 p_b) (p_b.length - 0) 0 (7)) (fun r => r) (fun x3 =>
    x3)
def i_seal (p_b : Str) : Str :=
  p_b ++ (toS ([IntKind.wrap .u8 (Int.fdiv (i_sumOf p_b) 65536), IntKind.wrap .u8 (Int.fdiv (i_sumOf p_b) 256), IntKind.wrap .u8 (i_sumOf p_b)] : List Int))
def i_OpenSeal (p_b : Str) : Str × Bool :=
  bif i_within (p_b.length : Int) 3 6000 then
    bif (i_seal (p_b.take ((IntKind.wrap .i64 ((p_b.length : Int) - 3)).toNat))) == p_b then
      ((p_b.take ((IntKind.wrap .i64 ((p_b.length : Int) - 3)).toNat)), true)
    else
      (([] : Str), false)
  else
    (([] : Str), false)
def i_source_fail (p_r_b : Str) (p_r : Int × Bool) : (Int × Bool) :=
  (p_r.1, true)
def i_source_take (p_r_b : Str) (p_r : Int × Bool) (p_n : Int) : Str × (Int × Bool) :=
  bif p_r.2 then
    (([] : Str), (i_source_fail p_r_b p_r))
  else
    bif decide ((IntKind.wrap .i64 ((p_r_b.length : Int) - p_r.1)) < p_n) then
      (([] : Str), (i_source_fail p_r_b p_r))
    else
      (((p_r_b.take ((IntKind.wrap .i64 (p_r.1 + p_n)).toNat)).drop ((IntKind.wrap .i64 ((IntKind.wrap .i64 (p_r.1 + p_n)) - p_n)).toNat)), (IntKind.wrap .i64 (p_r.1 + p_n), p_r.2))
def B_i_numBytes_0 (p_n : Int) : Int × (List Int) → Out Str (Int × (List Int))
  | (x27, x28) => bif decide (128 ≤ x27) then
      .cont (IntKind.wrap .i64 (Int.tdiv x27 128), (x28 ++ ([IntKind.wrap .u8 ((IntKind.wrap .u8 (Int.tmod x27 128)) + 128)] : List Int)))
    else
      .brk (x27, x28)
def i_numBytes (p_n : Int) : Str :=
  loopE (loopW (B_i_numBytes_0 p_n) (((p_n).toNat) + 1) (p_n, ([] : List Int))) (fun r => r) (fun (x27, x28) =>
    toS (x28 ++ ([IntKind.wrap .u8 x27] : List Int)))
def B_i_source_num_0 (p_r_b : Str) (p_r : Int × Bool) : Int × Int × Int × Bool → Out (Int × (Int × Bool)) (Int × Int × Int × Bool)
  | (x27, x28, x29, x30) => bif ((i_source_take p_r_b (x29, x30) 1).2).2 then
      .ret (0, ((i_source_take p_r_b (x29, x30) 1).2))
    else
      bif decide (1000000000 < (IntKind.wrap .i64 (x27 + (IntKind.wrap .i64 ((IntKind.wrap .i64 (Int.tmod ((((i_source_take p_r_b (x29, x30) 1).1).getD 0 0).toNat : Int) 128)) * x28))))) then
        .ret (0, (i_source_fail p_r_b ((i_source_take p_r_b (x29, x30) 1).2)))
      else
        bif decide (5 < (IntKind.wrap .i64 ((((i_source_take p_r_b (x29, x30) 1).2).1) - p_r.1))) then
          .ret (0, (i_source_fail p_r_b ((i_source_take p_r_b (x29, x30) 1).2)))
        else
          bif decide (((((i_source_take p_r_b (x29, x30) 1).1).getD 0 0).toNat : Int) < 128) then
            .brk (IntKind.wrap .i64 (x27 + (IntKind.wrap .i64 ((IntKind.wrap .i64 (Int.tmod ((((i_source_take p_r_b (x29, x30) 1).1).getD 0 0).toNat : Int) 128)) * x28))), x28, ((i_source_take p_r_b (x29, x30) 1).2).1, ((i_source_take p_r_b (x29, x30) 1).2).2)
          else
            .cont (IntKind.wrap .i64 (x27 + (IntKind.wrap .i64 ((IntKind.wrap .i64 (Int.tmod ((((i_source_take p_r_b (x29, x30) 1).1).getD 0 0).toNat : Int) 128)) * x28))), IntKind.wrap .i64 (x28 * 128), ((i_source_take p_r_b (x29, x30) 1).2).1, ((i_source_take p_r_b (x29, x30) 1).2).2)
def i_source_num (p_r_b : Str) (p_r : Int × Bool) : Int × (Int × Bool) :=
  loopE (loopW (B_i_source_num_0 p_r_b p_r) (((6 - (p_r.1 - p_r.1)).toNat) + 1) (0, 1, p_r.1, p_r.2)) (fun r => r) (fun (x27, x28, x29, x30) =>
    bif (i_numBytes x27) == ((p_r_b.take ((x29).toNat)).drop ((p_r.1).toNat)) then
      (x27, (x29, x30))
    else
      (0, (i_source_fail p_r_b (x29, x30))))
def i_source_text (p_r_b : Str) (p_r : Int × Bool) : Str × (Int × Bool) :=
  bif decide (60 < ((i_source_num p_r_b p_r).1)) then
    (([] : Str), (i_source_fail p_r_b ((i_source_num p_r_b p_r).2)))
  else
    ((i_source_take p_r_b ((i_source_num p_r_b p_r).2) ((i_source_num p_r_b p_r).1)).1, ((i_source_take p_r_b ((i_source_num p_r_b p_r).2) ((i_source_num p_r_b p_r).1)).2))
def i_isTrue (p_now : Int) : Bool :=
  (i_within p_now 0 100000)
def B_g_slices_IndexFunc_FeedItem_0 (p_s : List DFeedItem) (p_f : DFeedItem → Bool) (k7 : Nat) : Unit → Out Int Unit
  | () => bif p_f (p_s.getD k7 d_FeedItem) then
      .ret (k7 : Int)
    else
      .cont ()
def g_slices_IndexFunc_FeedItem (p_s : List DFeedItem) (p_f : DFeedItem → Bool) : Int :=
  loopE (loopM (B_g_slices_IndexFunc_FeedItem_0 p_s p_f) (p_s.length - 0) 0 ()) (fun r => r) (fun _ =>
    -1)
def g_slices_ContainsFunc_FeedItem (p_s : List DFeedItem) (p_f : DFeedItem → Bool) : Bool :=
  decide (0 ≤ (g_slices_IndexFunc_FeedItem p_s p_f))
def B_g_cmp_Or_int_0 (p_vals : List Int) (k3 : Nat) : Unit → Out Int Unit
  | () => bif decide ((p_vals.getD k3 d_Int) = 0) then
      .cont ()
    else
      .ret (p_vals.getD k3 d_Int)
def g_cmp_Or_int (p_vals : List Int) : Int :=
  loopE (loopM (B_g_cmp_Or_int_0 p_vals) (p_vals.length - 0) 0 ()) (fun r => r) (fun _ =>
    0)
def g_cmp_isNaN_int (p_x : Int) : Bool :=
  !(decide (p_x = p_x))
def g_cmp_Compare_int (p_x : Int) (p_y : Int) : Int :=
  bif g_cmp_isNaN_int p_x then
    bif g_cmp_isNaN_int p_y then
      0
    else
      -1
  else
    bif g_cmp_isNaN_int p_y then
      1
    else
      bif decide (p_x < p_y) then
        -1
      else
        bif decide (p_y < p_x) then
          1
        else
          0
def g_cmp_isNaN_string (p_x : Str) : Bool :=
  !(p_x == p_x)
def g_cmp_Compare_string (p_x : Str) (p_y : Str) : Int :=
  bif g_cmp_isNaN_string p_x then
    bif g_cmp_isNaN_string p_y then
      0
    else
      -1
  else
    bif g_cmp_isNaN_string p_y then
      1
    else
      bif sLt p_x p_y then
        -1
      else
        bif sLe p_x p_y then
          0
        else
          1
def i_compareItems (p_a : DFeedItem) (p_b : DFeedItem) : Int :=
  (g_cmp_Or_int ([(g_cmp_Compare_int p_a.Time p_b.Time), (g_cmp_Compare_int p_a.Group p_b.Group), (g_cmp_Compare_string p_a.Key p_b.Key)] : List Int))
def B_i_isFeed_0 (p_l : List DFeedItem) (k3 : Nat) : Unit → Out Bool Unit
  | () => bif decide (0 < (k3 : Int)) then
      bif decide (0 ≤ (i_compareItems (p_l.getD ((IntKind.wrap .i64 ((k3 : Int) - 1)).toNat) d_FeedItem) (p_l.getD k3 d_FeedItem))) then
        .ret false
      else
        .cont ()
    else
      .cont ()
def i_isFeed (p_l : List DFeedItem) : Bool :=
  loopE (loopM (B_i_isFeed_0 p_l) (p_l.length - 0) 0 ()) (fun r => r) (fun _ =>
    decide ((p_l.length : Int) ≤ 400))
def i_isTime (p_t : Int) : Bool :=
  (i_within p_t 1 100000)
def i_isLowerOrDigit (p_b : Int) : Bool :=
  bif decide (97 ≤ p_b) then
    bif decide (p_b ≤ 122) then
      true
    else
      bif decide (48 ≤ p_b) then
        decide (p_b ≤ 57)
      else
        false
  else
    bif decide (48 ≤ p_b) then
      decide (p_b ≤ 57)
    else
      false
def g_internal_stringslite_IndexByte (p_s : Str) (p_c : Int) : Int :=
  idxB p_s p_c
def g_strings_IndexByte (p_s : Str) (p_c : Int) : Int :=
  (g_internal_stringslite_IndexByte p_s p_c)
def B_i_hasBytes_0 (p_s : Str) (p_others : Str) (k3 : Nat) : Unit → Out Bool Unit
  | () => bif i_isLowerOrDigit ((p_s.getD k3 0).toNat : Int) then
      .cont ()
    else
      bif decide ((g_strings_IndexByte p_others ((p_s.getD k3 0).toNat : Int)) < 0) then
        .ret false
      else
        .cont ()
def i_hasBytes (p_s : Str) (p_others : Str) : Bool :=
  loopE (loopM (B_i_hasBytes_0 p_s p_others) (p_s.length - 0) 0 ()) (fun r => r) (fun _ =>
    true)
def i_GoodVal (p_s : Str) : Bool :=
  bif decide ((p_s.length : Int) ≤ 24) then
    (i_hasBytes p_s ([46, 45, 44, 95] : Str))
  else
    false
def i_isStored (p_val : Str) (p_gone : Bool) : Bool :=
  bif i_GoodVal p_val then
    bif p_gone then
      !(!(p_val == ([] : Str)))
    else
      !false
  else
    false
def i_GoodKey (p_s : Str) : Bool :=
  bif i_within (p_s.length : Int) 1 12 then
    (i_hasBytes p_s ([46, 47] : Str))
  else
    false
def i_isGroup (p_g : Int) : Bool :=
  (i_within p_g 0 3)
def i_GoodItem (p_c : DFeedItem) : Bool :=
  bif i_isTime p_c.Time then
    bif i_isGroup p_c.Group then
      bif i_GoodKey p_c.Key then
        (i_isStored p_c.Val p_c.Gone)
      else
        false
    else
      false
  else
    false
def i_GoodFeed_c1 (p_c : DFeedItem) : Bool :=
  !(i_GoodItem p_c)
def i_GoodFeed (p_l : List DFeedItem) : Bool :=
  bif i_isFeed p_l then
    !(g_slices_ContainsFunc_FeedItem p_l (fun y0 => i_GoodFeed_c1 y0))
  else
    false
def i_GoodDiff_c1 (p_c : DFeedItem) (p_cap0 : DDiff) : Bool :=
  bif decide (p_c.Group = 0) then
    bif decide (p_c.Time ≤ p_cap0.From) then
      true
    else
      decide (p_cap0.To < p_c.Time)
  else
    true
def i_GoodDiff (p_d : DDiff) : Bool :=
  bif i_isTrue p_d.From then
    bif i_isTrue p_d.To then
      bif decide (p_d.From ≤ p_d.To) then
        bif decide ((p_d.List.length : Int) ≤ 60) then
          bif i_GoodFeed p_d.List then
            !(g_slices_ContainsFunc_FeedItem p_d.List (fun y0 => i_GoodDiff_c1 y0 p_d))
          else
            false
        else
          false
      else
        false
    else
      false
  else
    false
def i_textBytes (p_s : Str) : Str :=
  (i_numBytes (p_s.length : Int)) ++ p_s
def i_flagByte (p_is : Bool) : Str :=
  bif p_is then
    ([1] : Str)
  else
    ([0] : Str)
def B_i_diffBytes_0 (p_d : DDiff) (k12 : Nat) : Str → Out Str Str
  | (x47) => .cont (x47 ++ ((((i_numBytes ((p_d.List.getD k12 d_FeedItem).Time)) ++ (i_textBytes ((p_d.List.getD k12 d_FeedItem).Key))) ++ (i_flagByte ((p_d.List.getD k12 d_FeedItem).Gone))) ++ (i_textBytes ((p_d.List.getD k12 d_FeedItem).Val))))
def i_diffBytes (p_d : DDiff) : Str :=
  loopE (loopM (B_i_diffBytes_0 p_d) (p_d.List.length - 0) 0 (((i_numBytes p_d.From) ++ (i_numBytes p_d.To)) ++ (i_numBytes (p_d.List.length : Int)))) (fun r => r) (fun x47 =>
    (i_seal x47))
def B_i_ReadDiff_0 (p_0 : Str) : Int × Int × Bool × (List DFeedItem) → Out (DDiff × Bool) (Int × Int × Bool × (List DFeedItem))
  | (x75, x76, x77, x78) => bif decide (0 < x75) then
      bif x77 then
        .brk (x75, x76, x77, x78)
      else
        .cont (IntKind.wrap .i64 (x75 - 1), ((i_source_text ((i_OpenSeal p_0).1) ((i_source_take ((i_OpenSeal p_0).1) ((i_source_text ((i_OpenSeal p_0).1) ((i_source_num ((i_OpenSeal p_0).1) (x76, x77)).2)).2) 1).2)).2).1, ((i_source_text ((i_OpenSeal p_0).1) ((i_source_take ((i_OpenSeal p_0).1) ((i_source_text ((i_OpenSeal p_0).1) ((i_source_num ((i_OpenSeal p_0).1) (x76, x77)).2)).2) 1).2)).2).2, (x78 ++ ([(⟨(i_source_num ((i_OpenSeal p_0).1) (x76, x77)).1, 0, (i_source_text ((i_OpenSeal p_0).1) ((i_source_num ((i_OpenSeal p_0).1) (x76, x77)).2)).1, (i_source_text ((i_OpenSeal p_0).1) ((i_source_take ((i_OpenSeal p_0).1) ((i_source_text ((i_OpenSeal p_0).1) ((i_source_num ((i_OpenSeal p_0).1) (x76, x77)).2)).2) 1).2)).1, ((i_source_take ((i_OpenSeal p_0).1) ((i_source_text ((i_OpenSeal p_0).1) ((i_source_num ((i_OpenSeal p_0).1) (x76, x77)).2)).2) 1).1) == ([1] : Str)⟩ : DFeedItem)] : List DFeedItem)))
    else
      .brk (x75, x76, x77, x78)
def i_ReadDiff (p_0 : Str) : DDiff × Bool :=
  bif (i_OpenSeal p_0).2 then
    loopE (loopW (B_i_ReadDiff_0 p_0) ((((i_source_num ((i_OpenSeal p_0).1) ((i_source_num ((i_OpenSeal p_0).1) ((i_source_num ((i_OpenSeal p_0).1) (0, false)).2)).2)).1).toNat) + 1) ((i_source_num ((i_OpenSeal p_0).1) ((i_source_num ((i_OpenSeal p_0).1) ((i_source_num ((i_OpenSeal p_0).1) (0, false)).2)).2)).1, ((i_source_num ((i_OpenSeal p_0).1) ((i_source_num ((i_OpenSeal p_0).1) ((i_source_num ((i_OpenSeal p_0).1) (0, false)).2)).2)).2).1, ((i_source_num ((i_OpenSeal p_0).1) ((i_source_num ((i_OpenSeal p_0).1) ((i_source_num ((i_OpenSeal p_0).1) (0, false)).2)).2)).2).2, ([] : List DFeedItem))) (fun r => r) (fun (x75, x76, x77, x78) =>
      bif x77 then
        ((⟨0, 0, []⟩ : DDiff), false)
      else
        bif i_GoodDiff (⟨(i_source_num ((i_OpenSeal p_0).1) (0, false)).1, (i_source_num ((i_OpenSeal p_0).1) ((i_source_num ((i_OpenSeal p_0).1) (0, false)).2)).1, x78⟩ : DDiff) then
          bif (i_diffBytes (⟨(i_source_num ((i_OpenSeal p_0).1) (0, false)).1, (i_source_num ((i_OpenSeal p_0).1) ((i_source_num ((i_OpenSeal p_0).1) (0, false)).2)).1, x78⟩ : DDiff)) == p_0 then
            ((⟨(i_source_num ((i_OpenSeal p_0).1) (0, false)).1, (i_source_num ((i_OpenSeal p_0).1) ((i_source_num ((i_OpenSeal p_0).1) (0, false)).2)).1, x78⟩ : DDiff), true)
          else
            ((⟨0, 0, []⟩ : DDiff), false)
        else
          ((⟨0, 0, []⟩ : DDiff), false))
  else
    ((⟨0, 0, []⟩ : DDiff), false)
def l_eqFeedItem (p_a : DFeedItem) (p_b : DFeedItem) : Bool :=
  bif decide (p_a.Time = p_b.Time) then
    bif decide (p_a.Group = p_b.Group) then
      bif p_a.Key == p_b.Key then
        bif p_a.Val == p_b.Val then
          bif p_a.Gone == p_b.Gone then
            true
          else
            false
        else
          false
      else
        false
    else
      false
  else
    false
def B_l_eqFeedItemS_0 (p_a : List DFeedItem) (p_b : List DFeedItem) (k4 : Nat) : Unit → Out Bool Unit
  | () => bif l_eqFeedItem (p_a.getD k4 d_FeedItem) (p_b.getD k4 d_FeedItem) then
      .cont ()
    else
      .ret false
def l_eqFeedItemS (p_a : List DFeedItem) (p_b : List DFeedItem) : Bool :=
  bif decide ((p_a.length : Int) = (p_b.length : Int)) then
    loopE (loopM (B_l_eqFeedItemS_0 p_a p_b) (p_a.length - 0) 0 ()) (fun r => r) (fun _ =>
      true)
  else
    false
def l_eqDiff (p_a : DDiff) (p_b : DDiff) : Bool :=
  bif decide (p_a.From = p_b.From) then
    bif decide (p_a.To = p_b.To) then
      bif l_eqFeedItemS p_a.List p_b.List then
        true
      else
        false
    else
      false
  else
    false
def B_l_markText_0 (p_k : Int) : Int × Str → Out Str (Int × Str)
  | (x15, x16) => bif decide (0 < x15) then
      .cont (IntKind.wrap .i64 (Int.tdiv x15 10), (toS ([IntKind.wrap .u8 (IntKind.wrap .i64 (48 + (Int.tmod x15 10)))] : List Int)) ++ x16)
    else
      .brk (x15, x16)
def l_markText (p_k : Int) : Str :=
  bif decide (p_k ≤ 0) then
    ([109, 48] : Str)
  else
    loopE (loopW (B_l_markText_0 p_k) ((((p_k).toNat + 1) / 2) + 1) (p_k, ([] : Str))) (fun r => r) (fun (x15, x16) =>
      ([109] : Str) ++ x16)
def B_l_markFeedItemS_0 (p_a : List DFeedItem) (p_k : Int) (k3 : Nat) : Int × (List DFeedItem) → Out (Int × (List DFeedItem)) (Int × (List DFeedItem))
  | (x41, x42) => .cont (IntKind.wrap .i64 ((IntKind.wrap .i64 ((IntKind.wrap .i64 ((IntKind.wrap .i64 ((IntKind.wrap .i64 (x41 + 1)) + 1)) + 1)) + 1)) + 1), (x42.set k3 (⟨x41, IntKind.wrap .i64 (x41 + 1), (l_markText (IntKind.wrap .i64 ((IntKind.wrap .i64 (x41 + 1)) + 1))), (l_markText (IntKind.wrap .i64 ((IntKind.wrap .i64 ((IntKind.wrap .i64 (x41 + 1)) + 1)) + 1))), decide ((Int.tmod (IntKind.wrap .i64 ((IntKind.wrap .i64 ((IntKind.wrap .i64 ((IntKind.wrap .i64 (x41 + 1)) + 1)) + 1)) + 1)) 3) = 0)⟩ : DFeedItem)))
def l_markFeedItemS (p_a : List DFeedItem) (p_k : Int) : Int × (List DFeedItem) :=
  loopE (loopM (B_l_markFeedItemS_0 p_a p_k) (p_a.length - 0) 0 (p_k, p_a)) (fun r => r) (fun (x41, x42) =>
    (x41, x42))
def l_markDiff (p_a : DDiff) (p_k : Int) : Int × DDiff :=
  ((l_markFeedItemS p_a.List p_k).1, (⟨p_a.From, p_a.To, (l_markFeedItemS p_a.List p_k).2⟩ : DDiff))
def B_l_heldFeedItemS_0 (p_a : List DFeedItem) (p_k : Int) (k2 : Nat) : Int → Out Int Int
  | (x3) => bif decide (((p_a.getD k2 d_FeedItem).Time) = x3) then
      bif decide (((p_a.getD k2 d_FeedItem).Group) = (IntKind.wrap .i64 (x3 + 1))) then
        bif ((p_a.getD k2 d_FeedItem).Key) == (l_markText (IntKind.wrap .i64 ((IntKind.wrap .i64 (x3 + 1)) + 1))) then
          bif ((p_a.getD k2 d_FeedItem).Val) == (l_markText (IntKind.wrap .i64 ((IntKind.wrap .i64 ((IntKind.wrap .i64 (x3 + 1)) + 1)) + 1))) then
            bif ((p_a.getD k2 d_FeedItem).Gone) == (decide ((Int.tmod (IntKind.wrap .i64 ((IntKind.wrap .i64 ((IntKind.wrap .i64 ((IntKind.wrap .i64 (x3 + 1)) + 1)) + 1)) + 1)) 3) = 0)) then
              .cont (IntKind.wrap .i64 ((IntKind.wrap .i64 ((IntKind.wrap .i64 ((IntKind.wrap .i64 ((IntKind.wrap .i64 (x3 + 1)) + 1)) + 1)) + 1)) + 1))
            else
              .ret (-1)
          else
            .ret (-1)
        else
          .ret (-1)
      else
        .ret (-1)
    else
      .ret (-1)
def l_heldFeedItemS (p_a : List DFeedItem) (p_k : Int) : Int :=
  loopE (loopM (B_l_heldFeedItemS_0 p_a p_k) (p_a.length - 0) 0 (p_k)) (fun r => r) (fun x3 =>
    x3)
def l_heldDiff (p_a : DDiff) (p_k : Int) : Int :=
  bif decide ((l_heldFeedItemS p_a.List p_k) < 0) then
    -1
  else
    (l_heldFeedItemS p_a.List p_k)
def l_FnExactReadDiff (p_0 : Str) : Bool :=
  bif decide (1048576 < (p_0.length : Int)) then
    true
  else
    bif l_eqDiff ((i_ReadDiff p_0).1) ((s_ReadDiff p_0).1) then
      bif ((i_ReadDiff p_0).2) == ((s_ReadDiff p_0).2) then
        bif decide ((l_heldDiff (⟨(i_ReadDiff p_0).1.From, (i_ReadDiff p_0).1.To, (l_markDiff ((i_ReadDiff p_0).1) 1).2.List⟩ : DDiff) 1) < 0) then
          false
        else
          bif decide ((l_heldDiff (⟨(i_ReadDiff p_0).1.From, (i_ReadDiff p_0).1.To, (l_markDiff ((i_ReadDiff p_0).1) 1).2.List⟩ : DDiff) 1) = ((l_markDiff ((i_ReadDiff p_0).1) 1).1)) then
            true
          else
            false
      else
        false
    else
      false
def s_GoodDiff (p_d : DDiff) : Bool :=
  (s_l31Diff p_d)
def i_DiffBytes (p_d : DDiff) : Str × Bool :=
  bif i_GoodDiff p_d then
    bif decide (6000 < ((i_diffBytes p_d).length : Int)) then
      (([] : Str), false)
    else
      ((i_diffBytes p_d), true)
  else
    (([] : Str), false)
end Go.Proofs.Ytbamdefifgkbgaa
