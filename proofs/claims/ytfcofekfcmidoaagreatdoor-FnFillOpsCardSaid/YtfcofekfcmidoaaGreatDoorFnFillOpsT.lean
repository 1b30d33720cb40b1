/- Fn Fill Ops: the plain forms of the values, and plain models of the functions. -/
import Derived.Test.YtfcofekfcmidoaaGreatDoorE23
set_option linter.unusedVariables false
set_option linter.unusedSimpArgs false
namespace Go.Proofs.YtfcofekfcmidoaaGreatDoor
open Go.RowKit Go.X
structure DIdx where
  Name : Str
  Col : Int
  Stage : Int
def d_Idx : DIdx := ⟨[], 0, 0⟩
def wf_Idx (x : DIdx) : Prop := wfS x.Name ∧ wfI x.Col ∧ wfI x.Stage
def ok_Idx (x : DIdx) : Prop := okS x.Name
theorem ok_d_Idx : ok_Idx d_Idx := ok_d_Str
def e_Idx (x : DIdx) : List Value := [.string (bs x.Name), .int .i64 x.Col, .int .i64 x.Stage]
theorem gI : Gd (RF e_Idx) := RF.good fun _ => rfl
structure DTable where
  Name : Str
  Cols : List Str
  Idxs : List DIdx
def d_Table : DTable := ⟨[], [], []⟩
def wf_Table (x : DTable) : Prop := wfS x.Name ∧ (wfL wfS) x.Cols ∧ (wfL wf_Idx) x.Idxs
def ok_Table (x : DTable) : Prop := okS x.Name ∧ (okL okS) x.Cols ∧ (okL ok_Idx) x.Idxs
theorem ok_d_Table : ok_Table d_Table := ⟨ok_d_Str, okL.nil _, okL.nil _⟩
def R_Table : Rel DTable := fun w S cs x => ∃ A1 c1 A2 c2, cs = [.string (bs x.Name), .slice A1 x.Cols.length c1, .slice A2 x.Idxs.length c2] ∧ RdS w S (RF e_Str) 1 A1 x.Cols.length c1 x.Cols ∧ RdS w S (RF e_Idx) 3 A2 x.Idxs.length c2 x.Idxs
def RO_Table : RelO DTable := fun w l h cs x => ∃ A1 c1 lo1 hi1 A2 c2 lo2 hi2, cs = [.string (bs x.Name), .slice A1 x.Cols.length c1, .slice A2 x.Idxs.length c2] ∧ OwnL w lo1 hi1 9 1 (RF e_Str) A1 x.Cols.length c1 x.Cols ∧ OwnL w lo2 hi2 54 3 (RF e_Idx) A2 x.Idxs.length c2 x.Idxs ∧ (l ≤ lo1 ∧ lo1 ≤ hi1 ∧ hi1 ≤ h) ∧ (l ≤ lo2 ∧ lo2 ≤ hi2 ∧ hi2 ≤ h) ∧ (hi1 ≤ lo2 ∨ hi2 ≤ lo1)
theorem good_Table : Gd R_Table := ⟨fun ⟨A1, c1, A2, c2, he, h0, h1⟩ hk => ⟨A1, c1, A2, c2, he, RdS.keep gS h0 hk, RdS.keep gI h1 hk⟩, fun ⟨A1, c1, A2, c2, he, h0, h1⟩ hw => ⟨A1, c1, A2, c2, he, RdS.wide gS h0 hw, RdS.wide gI h1 hw⟩, fun ⟨A1, c1, A2, c2, he, h0, h1⟩ => by rw [he]; rfl⟩
theorem goodO_Table : GdO RO_Table R_Table := ⟨fun ⟨A1, c1, lo1, hi1, A2, c2, lo2, hi2, he, h1, h2, r0, r1, r2⟩ hk => ⟨A1, c1, lo1, hi1, A2, c2, lo2, hi2, he, OwnL.keep gS h1 (fun b b1 b2 b3 => hk b oM oM b3), OwnL.keep gI h2 (fun b b1 b2 b3 => hk b oM oM b3), r0, r1, r2⟩, fun ⟨A1, c1, lo1, hi1, A2, c2, lo2, hi2, he, h1, h2, r0, r1, r2⟩ => by rw [he]; rfl, fun ⟨A1, c1, lo1, hi1, A2, c2, lo2, hi2, he, h1, h2, r0, r1, r2⟩ => ⟨A1, c1, A2, c2, he, RdS.wide gS (OwnL.rdI gS h1) (fun b hb _ => ⟨by have := hb.1; omega, by have := hb.2; omega⟩), RdS.wide gI (OwnL.rdI gI h2) (fun b hb _ => ⟨by have := hb.1; omega, by have := hb.2; omega⟩)⟩⟩
theorem mkO_Table {w : World} {l h : Nat} {z0 : Str} {lo1 hi1 n1 c1 : Nat} {A1 : Option Addr} {y1 : List Str} {lo2 hi2 n2 c2 : Nat} {A2 : Option Addr} {y2 : List DIdx} (h1 : OwnL w lo1 hi1 9 1 (RF e_Str) A1 n1 c1 y1) (h2 : OwnL w lo2 hi2 54 3 (RF e_Idx) A2 n2 c2 y2) (r0 : (l ≤ lo1 ∧ lo1 ≤ hi1 ∧ hi1 ≤ h)) (r1 : (l ≤ lo2 ∧ lo2 ≤ hi2 ∧ hi2 ≤ h)) (r2 : (hi1 ≤ lo2 ∨ hi2 ≤ lo1)) : RO_Table w l h [.string (bs z0), .slice A1 n1 c1, .slice A2 n2 c2] ⟨z0, y1, y2⟩ := by
  obtain rfl := h1.1; obtain rfl := h2.1
  exact ⟨A1, c1, lo1, hi1, A2, c2, lo2, hi2, rfl, h1, h2, r0, r1, r2⟩
structure DL1Cur where
  code : List Int
  at_ : Int
  seed : Int
def d_L1Cur : DL1Cur := ⟨[], 0, 0⟩
def wf_L1Cur (x : DL1Cur) : Prop := (wfL wfI) x.code ∧ wfI x.at_ ∧ wfI x.seed
def ok_L1Cur (x : DL1Cur) : Prop := (okL okT) x.code
theorem ok_d_L1Cur : ok_L1Cur d_L1Cur := okL.nil _
def R_L1Cur : Rel DL1Cur := fun w S cs x => ∃ A1 c1, cs = [.slice A1 x.code.length c1, .int .i64 x.at_, .int .u64 x.seed] ∧ RdS w S (RF e_U8) 1 A1 x.code.length c1 x.code
def RO_L1Cur : RelO DL1Cur := fun w l h cs x => ∃ A1 c1 lo1 hi1, cs = [.slice A1 x.code.length c1, .int .i64 x.at_, .int .u64 x.seed] ∧ OwnL w lo1 hi1 5 1 (RF e_U8) A1 x.code.length c1 x.code ∧ (l ≤ lo1 ∧ lo1 ≤ hi1 ∧ hi1 ≤ h)
theorem good_L1Cur : Gd R_L1Cur := ⟨fun ⟨A1, c1, he, h0⟩ hk => ⟨A1, c1, he, RdS.keep gU h0 hk⟩, fun ⟨A1, c1, he, h0⟩ hw => ⟨A1, c1, he, RdS.wide gU h0 hw⟩, fun ⟨A1, c1, he, h0⟩ => by rw [he]; rfl⟩
theorem goodO_L1Cur : GdO RO_L1Cur R_L1Cur := ⟨fun ⟨A1, c1, lo1, hi1, he, h1, r0⟩ hk => ⟨A1, c1, lo1, hi1, he, OwnL.keep gU h1 (fun b b1 b2 b3 => hk b oM oM b3), r0⟩, fun ⟨A1, c1, lo1, hi1, he, h1, r0⟩ => by rw [he]; rfl, fun ⟨A1, c1, lo1, hi1, he, h1, r0⟩ => ⟨A1, c1, he, RdS.wide gU (OwnL.rdI gU h1) (fun b hb _ => ⟨by have := hb.1; omega, by have := hb.2; omega⟩)⟩⟩
theorem mkO_L1Cur {w : World} {l h : Nat} {lo1 hi1 n1 c1 : Nat} {A1 : Option Addr} {y1 : List Int} {z1 : Int} {z2 : Int} (h1 : OwnL w lo1 hi1 5 1 (RF e_U8) A1 n1 c1 y1) (r0 : (l ≤ lo1 ∧ lo1 ≤ hi1 ∧ hi1 ≤ h)) : RO_L1Cur w l h [.slice A1 n1 c1, .int .i64 z1, .int .u64 z2] ⟨y1, z1, z2⟩ := by
  obtain rfl := h1.1
  exact ⟨A1, c1, lo1, hi1, rfl, h1, r0⟩
structure DRow where
  Vals : List Str
def d_Row : DRow := ⟨[]⟩
def wf_Row (x : DRow) : Prop := (wfL wfS) x.Vals
def ok_Row (x : DRow) : Prop := (okL okS) x.Vals
theorem ok_d_Row : ok_Row d_Row := okL.nil _
def R_Row : Rel DRow := fun w S cs x => ∃ A1 c1, cs = [.slice A1 x.Vals.length c1] ∧ RdS w S (RF e_Str) 1 A1 x.Vals.length c1 x.Vals
def RO_Row : RelO DRow := fun w l h cs x => ∃ A1 c1 lo1 hi1, cs = [.slice A1 x.Vals.length c1] ∧ OwnL w lo1 hi1 9 1 (RF e_Str) A1 x.Vals.length c1 x.Vals ∧ (l ≤ lo1 ∧ lo1 ≤ hi1 ∧ hi1 ≤ h)
theorem good_Row : Gd R_Row := ⟨fun ⟨A1, c1, he, h0⟩ hk => ⟨A1, c1, he, RdS.keep gS h0 hk⟩, fun ⟨A1, c1, he, h0⟩ hw => ⟨A1, c1, he, RdS.wide gS h0 hw⟩, fun ⟨A1, c1, he, h0⟩ => by rw [he]; rfl⟩
theorem goodO_Row : GdO RO_Row R_Row := ⟨fun ⟨A1, c1, lo1, hi1, he, h1, r0⟩ hk => ⟨A1, c1, lo1, hi1, he, OwnL.keep gS h1 (fun b b1 b2 b3 => hk b oM oM b3), r0⟩, fun ⟨A1, c1, lo1, hi1, he, h1, r0⟩ => by rw [he]; rfl, fun ⟨A1, c1, lo1, hi1, he, h1, r0⟩ => ⟨A1, c1, he, RdS.wide gS (OwnL.rdI gS h1) (fun b hb _ => ⟨by have := hb.1; omega, by have := hb.2; omega⟩)⟩⟩
theorem mkO_Row {w : World} {l h : Nat} {lo1 hi1 n1 c1 : Nat} {A1 : Option Addr} {y1 : List Str} (h1 : OwnL w lo1 hi1 9 1 (RF e_Str) A1 n1 c1 y1) (r0 : (l ≤ lo1 ∧ lo1 ≤ hi1 ∧ hi1 ≤ h)) : RO_Row w l h [.slice A1 n1 c1] ⟨y1⟩ := by
  obtain rfl := h1.1
  exact ⟨A1, c1, lo1, hi1, rfl, h1, r0⟩
structure DWrite where
  Key : Str
  Val : Str
  Gone : Bool
def d_Write : DWrite := ⟨[], [], false⟩
def wf_Write (x : DWrite) : Prop := wfS x.Key ∧ wfS x.Val
def ok_Write (x : DWrite) : Prop := okS x.Key ∧ okS x.Val
theorem ok_d_Write : ok_Write d_Write := ⟨ok_d_Str, ok_d_Str⟩
def e_Write (x : DWrite) : List Value := [.string (bs x.Key), .string (bs x.Val), .bool x.Gone]
theorem gW : Gd (RF e_Write) := RF.good fun _ => rfl
structure DOp where
  Kind : Int
  Key : Str
  Val : Str
  By : Int
def d_Op : DOp := ⟨0, [], [], 0⟩
def wf_Op (x : DOp) : Prop := wfI x.Kind ∧ wfS x.Key ∧ wfS x.Val ∧ wfI x.By
def ok_Op (x : DOp) : Prop := okS x.Key ∧ okS x.Val
theorem ok_d_Op : ok_Op d_Op := ⟨ok_d_Str, ok_d_Str⟩
def e_Op (x : DOp) : List Value := [.int .i64 x.Kind, .string (bs x.Key), .string (bs x.Val), .int .i64 x.By]
theorem good_Op : Gd (RF e_Op) := RF.good fun _ => rfl
structure DGot where
  Key : Str
  Val : Str
  There : Bool
def d_Got : DGot := ⟨[], [], false⟩
def wf_Got (x : DGot) : Prop := wfS x.Key ∧ wfS x.Val
def ok_Got (x : DGot) : Prop := okS x.Key ∧ okS x.Val
theorem ok_d_Got : ok_Got d_Got := ⟨ok_d_Str, ok_d_Str⟩
def e_Got (x : DGot) : List Value := [.string (bs x.Key), .string (bs x.Val), .bool x.There]
theorem good_Got : Gd (RF e_Got) := RF.good fun _ => rfl
structure DBoundsError where
  x : Int
  y : Int
  signed : Bool
  code : Int
def d_BoundsError : DBoundsError := ⟨0, 0, false, 0⟩
def wf_BoundsError (x : DBoundsError) : Prop := wfI x.x ∧ wfI x.y ∧ wfI x.code
def e_BoundsError (x : DBoundsError) : List Value := [.int .i64 x.x, .int .i64 x.y, .bool x.signed, .int .u8 x.code]
theorem good_BoundsError : Gd (RF e_BoundsError) := RF.good fun _ => rfl
structure DErrorAddressString where
  msg : Str
  addr : Int
def d_ErrorAddressString : DErrorAddressString := ⟨[], 0⟩
def wf_ErrorAddressString (x : DErrorAddressString) : Prop := wfS x.msg ∧ wfI x.addr
def ok_ErrorAddressString (x : DErrorAddressString) : Prop := okS x.msg
theorem ok_d_ErrorAddressString : ok_ErrorAddressString d_ErrorAddressString := ok_d_Str
def e_ErrorAddressString (x : DErrorAddressString) : List Value := [.string (bs x.msg), .int .u64 x.addr]
theorem good_ErrorAddressString : Gd (RF e_ErrorAddressString) := RF.good fun _ => rfl
structure DAcceptRange where
  lo : Int
  hi : Int
def d_AcceptRange : DAcceptRange := ⟨0, 0⟩
def wf_AcceptRange (x : DAcceptRange) : Prop := wfI x.lo ∧ wfI x.hi
def e_AcceptRange (x : DAcceptRange) : List Value := [.int .u8 x.lo, .int .u8 x.hi]
theorem good_AcceptRange : Gd (RF e_AcceptRange) := RF.good fun _ => rfl
def d_LOp : List DOp := []
def R_LOp : Rel (List DOp) := fun w S cs x => ∃ A1 c1, cs = [.slice A1 x.length c1] ∧ RdS w S (RF e_Op) 4 A1 x.length c1 x
theorem good_LOp : Gd R_LOp := ⟨fun ⟨A1, c1, he, h0⟩ hk => ⟨A1, c1, he, RdS.keep good_Op h0 hk⟩, fun ⟨A1, c1, he, h0⟩ hw => ⟨A1, c1, he, RdS.wide good_Op h0 hw⟩, fun ⟨A1, c1, he, h0⟩ => by rw [he]; rfl⟩
theorem ok_d_LOp : okL ok_Op d_LOp := okL.nil _
def u_next (pC : List Int) (p_c : Int × Int) : Int × (Int × Int) :=
  bif decide (p_c.1 < (pC.length : Int)) then
    bif decide ((IntKind.wrap .i64 (p_c.1 + 1)) ≤ (pC.length : Int)) then
      (IntKind.wrap .i64 (pC.getD ((p_c.1).toNat) d_U8), (IntKind.wrap .i64 (p_c.1 + 1), IntKind.wrap .u64 ((IntKind.wrap .u64 ((IntKind.wrap .u64 (p_c.2 * 6364136223846793005)) + (IntKind.wrap .u64 (IntKind.wrap .i64 (pC.getD ((p_c.1).toNat) d_U8))))) + 1442695040888963407)))
    else
      (IntKind.wrap .i64 (iand .u64 (Int.fdiv (IntKind.wrap .u64 ((IntKind.wrap .u64 ((IntKind.wrap .u64 (p_c.2 * 6364136223846793005)) + (IntKind.wrap .u64 (IntKind.wrap .i64 (pC.getD ((p_c.1).toNat) d_U8))))) + 1442695040888963407)) 1099511627776) 255), (IntKind.wrap .i64 (p_c.1 + 1), IntKind.wrap .u64 ((IntKind.wrap .u64 ((IntKind.wrap .u64 (p_c.2 * 6364136223846793005)) + (IntKind.wrap .u64 (IntKind.wrap .i64 (pC.getD ((p_c.1).toNat) d_U8))))) + 1442695040888963407)))
  else
    bif decide ((IntKind.wrap .i64 (p_c.1 + 1)) ≤ (pC.length : Int)) then
      (0, (IntKind.wrap .i64 (p_c.1 + 1), IntKind.wrap .u64 ((IntKind.wrap .u64 ((IntKind.wrap .u64 (p_c.2 * 6364136223846793005)) + (IntKind.wrap .u64 0))) + 1442695040888963407)))
    else
      (IntKind.wrap .i64 (iand .u64 (Int.fdiv (IntKind.wrap .u64 ((IntKind.wrap .u64 ((IntKind.wrap .u64 (p_c.2 * 6364136223846793005)) + (IntKind.wrap .u64 0))) + 1442695040888963407)) 1099511627776) 255), (IntKind.wrap .i64 (p_c.1 + 1), IntKind.wrap .u64 ((IntKind.wrap .u64 ((IntKind.wrap .u64 (p_c.2 * 6364136223846793005)) + (IntKind.wrap .u64 0))) + 1442695040888963407)))
def u_pick (pC : List Int) (p_c : Int × Int) (p_n : Int) : Int × (Int × Int) :=
  bif decide (p_n ≤ 1) then
    (0, p_c)
  else
    bif decide (200 < p_n) then
      (Int.tmod (IntKind.wrap .i64 ((IntKind.wrap .i64 (((u_next pC p_c).1) * 256)) + ((u_next pC ((u_next pC p_c).2)).1))) p_n, ((u_next pC ((u_next pC p_c).2)).2))
    else
      (Int.tmod ((u_next pC p_c).1) p_n, ((u_next pC p_c).2))
def u_of (pC : List Int) (p_c : Int × Int) (p_list : List Str) : Str × (Int × Int) :=
  ((p_list.getD (((u_pick pC p_c (p_list.length : Int)).1).toNat) d_Str), ((u_pick pC p_c (p_list.length : Int)).2))
def u_one (pC : List Int) (p_c : Int × Int) (p_n : Int) : Bool × (Int × Int) :=
  (decide (((u_pick pC p_c p_n).1) = 0), ((u_pick pC p_c p_n).2))
def B_u_table_0 (pC : List Int) (p_c : Int × Int) (k85 : Nat) : Int × Int × (List DIdx) → Out (DTable × (Int × Int)) (Int × Int × (List DIdx))
  | (x151, x152, x153) => bif (u_one pC (x151, x152) 3).1 then
      bif (([[105], [106], [109]] : List Str).getD k85 d_Str) == ([105] : Str) then
        bif (u_one pC ((u_one pC (x151, x152) 3).2) 8).1 then
          .cont (((u_one pC ((u_one pC (x151, x152) 3).2) 8).2).1, ((u_one pC ((u_one pC (x151, x152) 3).2) 8).2).2, x153)
        else
          .cont (((u_pick pC ((u_pick pC ((u_one pC ((u_one pC (x151, x152) 3).2) 8).2) (IntKind.wrap .i64 (((([] : List Str) ++ (([[107], [97], [98], [99, 99]] : List Str).take ((IntKind.wrap .i64 (2 + ((u_pick pC ((u_of pC p_c ([[116], [117]] : List Str)).2) 3).1))).toNat))).length : Int) - 1))).2) 4).2).1, ((u_pick pC ((u_pick pC ((u_one pC ((u_one pC (x151, x152) 3).2) 8).2) (IntKind.wrap .i64 (((([] : List Str) ++ (([[107], [97], [98], [99, 99]] : List Str).take ((IntKind.wrap .i64 (2 + ((u_pick pC ((u_of pC p_c ([[116], [117]] : List Str)).2) 3).1))).toNat))).length : Int) - 1))).2) 4).2).2, (x153 ++ ([(⟨(([[105], [106], [109]] : List Str).getD k85 d_Str), IntKind.wrap .i64 (1 + ((u_pick pC ((u_one pC ((u_one pC (x151, x152) 3).2) 8).2) (IntKind.wrap .i64 (((([] : List Str) ++ (([[107], [97], [98], [99, 99]] : List Str).take ((IntKind.wrap .i64 (2 + ((u_pick pC ((u_of pC p_c ([[116], [117]] : List Str)).2) 3).1))).toNat))).length : Int) - 1))).1)), (u_pick pC ((u_pick pC ((u_one pC ((u_one pC (x151, x152) 3).2) 8).2) (IntKind.wrap .i64 (((([] : List Str) ++ (([[107], [97], [98], [99, 99]] : List Str).take ((IntKind.wrap .i64 (2 + ((u_pick pC ((u_of pC p_c ([[116], [117]] : List Str)).2) 3).1))).toNat))).length : Int) - 1))).2) 4).1⟩ : DIdx)] : List DIdx)))
      else
        .cont (((u_one pC (x151, x152) 3).2).1, ((u_one pC (x151, x152) 3).2).2, x153)
    else
      .cont (((u_pick pC ((u_pick pC ((u_one pC (x151, x152) 3).2) (IntKind.wrap .i64 (((([] : List Str) ++ (([[107], [97], [98], [99, 99]] : List Str).take ((IntKind.wrap .i64 (2 + ((u_pick pC ((u_of pC p_c ([[116], [117]] : List Str)).2) 3).1))).toNat))).length : Int) - 1))).2) 4).2).1, ((u_pick pC ((u_pick pC ((u_one pC (x151, x152) 3).2) (IntKind.wrap .i64 (((([] : List Str) ++ (([[107], [97], [98], [99, 99]] : List Str).take ((IntKind.wrap .i64 (2 + ((u_pick pC ((u_of pC p_c ([[116], [117]] : List Str)).2) 3).1))).toNat))).length : Int) - 1))).2) 4).2).2, (x153 ++ ([(⟨(([[105], [106], [109]] : List Str).getD k85 d_Str), IntKind.wrap .i64 (1 + ((u_pick pC ((u_one pC (x151, x152) 3).2) (IntKind.wrap .i64 (((([] : List Str) ++ (([[107], [97], [98], [99, 99]] : List Str).take ((IntKind.wrap .i64 (2 + ((u_pick pC ((u_of pC p_c ([[116], [117]] : List Str)).2) 3).1))).toNat))).length : Int) - 1))).1)), (u_pick pC ((u_pick pC ((u_one pC (x151, x152) 3).2) (IntKind.wrap .i64 (((([] : List Str) ++ (([[107], [97], [98], [99, 99]] : List Str).take ((IntKind.wrap .i64 (2 + ((u_pick pC ((u_of pC p_c ([[116], [117]] : List Str)).2) 3).1))).toNat))).length : Int) - 1))).2) 4).1⟩ : DIdx)] : List DIdx)))
def u_table (pC : List Int) (p_c : Int × Int) : DTable × (Int × Int) :=
  loopE (loopM (B_u_table_0 pC p_c) (3 - 0) 0 (((u_pick pC ((u_of pC p_c ([[116], [117]] : List Str)).2) 3).2).1, ((u_pick pC ((u_of pC p_c ([[116], [117]] : List Str)).2) 3).2).2, ([] : List DIdx))) (fun r => r) (fun (x151, x152, x153) =>
    ((⟨(u_of pC p_c ([[116], [117]] : List Str)).1, (([] : List Str) ++ (([[107], [97], [98], [99, 99]] : List Str).take ((IntKind.wrap .i64 (2 + ((u_pick pC ((u_of pC p_c ([[116], [117]] : List Str)).2) 3).1))).toNat))), x153⟩ : DTable), (x151, x152)))
def B_u_row_0 (pC : List Int) (p_c : Int × Int) (p_t : DTable) : Int × Int × (List Str) → Out (DRow × (Int × Int)) (Int × Int × (List Str))
  | (x85, x86, x87) => bif decide ((x87.length : Int) < (p_t.Cols.length : Int)) then
      .cont (((u_of pC (x85, x86) ([[120], [121], [120], [48], [97, 98, 99]] : List Str)).2).1, ((u_of pC (x85, x86) ([[120], [121], [120], [48], [97, 98, 99]] : List Str)).2).2, (x87 ++ ([(u_of pC (x85, x86) ([[120], [121], [120], [48], [97, 98, 99]] : List Str)).1] : List Str)))
    else
      .brk (x85, x86, x87)
def u_row (pC : List Int) (p_c : Int × Int) (p_t : DTable) : DRow × (Int × Int) :=
  loopE (loopW (B_u_row_0 pC p_c p_t) ((p_t.Cols.length - ([(u_of pC p_c ([[49], [50], [51], [97], [122, 122], [97, 98, 99]] : List Str)).1] : List Str).length) + 1) (((u_of pC p_c ([[49], [50], [51], [97], [122, 122], [97, 98, 99]] : List Str)).2).1, ((u_of pC p_c ([[49], [50], [51], [97], [122, 122], [97, 98, 99]] : List Str)).2).2, ([(u_of pC p_c ([[49], [50], [51], [97], [122, 122], [97, 98, 99]] : List Str)).1] : List Str))) (fun r => r) (fun (x85, x86, x87) =>
    ((⟨x87⟩ : DRow), (x85, x86)))
def u_bentRow (pC : List Int) (p_c : Int × Int) (p_t : DTable) : DRow × (Int × Int) :=
  bif decide (((u_pick pC ((u_row pC p_c p_t).2) 10).1) = 0) then
    ((⟨(((u_row pC p_c p_t).1.Vals).set (((u_pick pC ((u_pick pC ((u_row pC p_c p_t).2) 10).2) (((u_row pC p_c p_t).1.Vals).length : Int)).1).toNat) ((u_of pC ((u_pick pC ((u_pick pC ((u_row pC p_c p_t).2) 10).2) (((u_row pC p_c p_t).1.Vals).length : Int)).2) ([[], [97, 98, 99, 100], [45], [65]] : List Str)).1))⟩ : DRow), ((u_of pC ((u_pick pC ((u_pick pC ((u_row pC p_c p_t).2) 10).2) (((u_row pC p_c p_t).1.Vals).length : Int)).2) ([[], [97, 98, 99, 100], [45], [65]] : List Str)).2))
  else
    bif decide (((u_pick pC ((u_row pC p_c p_t).2) 10).1) = 1) then
      ((⟨((u_row pC p_c p_t).1.Vals ++ ([[120]] : List Str))⟩ : DRow), ((u_pick pC ((u_row pC p_c p_t).2) 10).2))
    else
      bif decide (((u_pick pC ((u_row pC p_c p_t).2) 10).1) = 2) then
        ((⟨([] : List Str)⟩ : DRow), ((u_pick pC ((u_row pC p_c p_t).2) 10).2))
      else
        ((u_row pC p_c p_t).1, ((u_pick pC ((u_row pC p_c p_t).2) 10).2))
def u_bentTable (pC : List Int) (p_c : Int × Int) : DTable × (Int × Int) :=
  bif decide (((u_pick pC ((u_table pC p_c).2) 14).1) = 0) then
    ((⟨(u_of pC ((u_pick pC ((u_table pC p_c).2) 14).2) ([[], [116, 116], [84]] : List Str)).1, (u_table pC p_c).1.Cols, (u_table pC p_c).1.Idxs⟩ : DTable), ((u_of pC ((u_pick pC ((u_table pC p_c).2) 14).2) ([[], [116, 116], [84]] : List Str)).2))
  else
    bif decide (((u_pick pC ((u_table pC p_c).2) 14).1) = 1) then
      ((⟨(u_table pC p_c).1.Name, ((u_table pC p_c).1.Cols ++ ([(u_of pC ((u_pick pC ((u_table pC p_c).2) 14).2) ([[97], [97, 98, 99, 100], [], [100]] : List Str)).1] : List Str)), (u_table pC p_c).1.Idxs⟩ : DTable), ((u_of pC ((u_pick pC ((u_table pC p_c).2) 14).2) ([[97], [97, 98, 99, 100], [], [100]] : List Str)).2))
    else
      bif decide (((u_pick pC ((u_table pC p_c).2) 14).1) = 2) then
        ((⟨(u_table pC p_c).1.Name, (((u_table pC p_c).1.Cols).take 1), (u_table pC p_c).1.Idxs⟩ : DTable), ((u_pick pC ((u_table pC p_c).2) 14).2))
      else
        bif decide (((u_pick pC ((u_table pC p_c).2) 14).1) = 3) then
          ((⟨(u_table pC p_c).1.Name, (u_table pC p_c).1.Cols, ((u_table pC p_c).1.Idxs ++ ([(⟨(u_of pC ((u_pick pC ((u_table pC p_c).2) 14).2) ([[97], [122], [122, 122]] : List Str)).1, (u_pick pC ((u_of pC ((u_pick pC ((u_table pC p_c).2) 14).2) ([[97], [122], [122, 122]] : List Str)).2) 5).1, IntKind.wrap .i64 (((u_pick pC ((u_pick pC ((u_of pC ((u_pick pC ((u_table pC p_c).2) 14).2) ([[97], [122], [122, 122]] : List Str)).2) 5).2) 5).1) - 1)⟩ : DIdx)] : List DIdx))⟩ : DTable), ((u_pick pC ((u_pick pC ((u_of pC ((u_pick pC ((u_table pC p_c).2) 14).2) ([[97], [122], [122, 122]] : List Str)).2) 5).2) 5).2))
        else
          ((u_table pC p_c).1, ((u_pick pC ((u_table pC p_c).2) 14).2))
def s_DrawGoodRow (p_code : List Int) : DTable × DRow :=
  bif (u_one p_code ((u_bentRow p_code ((u_table p_code (0, 0)).2) ((u_table p_code (0, 0)).1)).2) 9).1 then
    ((u_bentTable p_code ((u_one p_code ((u_bentRow p_code ((u_table p_code (0, 0)).2) ((u_table p_code (0, 0)).1)).2) 9).2)).1, (u_bentRow p_code ((u_table p_code (0, 0)).2) ((u_table p_code (0, 0)).1)).1)
  else
    ((u_table p_code (0, 0)).1, (u_bentRow p_code ((u_table p_code (0, 0)).2) ((u_table p_code (0, 0)).1)).1)
def s_DrawIdxKey (p_code : List Int) : DTable × Str × DRow :=
  ((s_DrawGoodRow (p_code.drop ((IntKind.wrap .i64 (Int.tdiv (p_code.length : Int) 3)).toNat))).1, (u_of p_code (0, 0) ([[105], [105], [105], [106], [109], [122]] : List Str)).1, (s_DrawGoodRow (p_code.drop ((IntKind.wrap .i64 (Int.tdiv (p_code.length : Int) 3)).toNat))).2)
def s_DrawFillOps (p_code : List Int) : DTable × Str × DRow :=
  ((s_DrawIdxKey p_code).1, (s_DrawIdxKey p_code).2.1, (s_DrawIdxKey p_code).2.2)
def i_within (p_n : Int) (p_low : Int) (p_high : Int) : Bool :=
  bif decide (p_low ≤ p_n) then
    decide (p_n ≤ p_high)
  else
    false
def B_i_areLetters_0 (p_s : Str) (p_most : Int) (k2 : Nat) : Unit → Out Bool Unit
  | () => bif decide (((p_s.getD k2 0).toNat : Int) < 97) then
      .ret false
    else
      bif decide (122 < ((p_s.getD k2 0).toNat : Int)) then
        .ret false
      else
        .cont ()
def i_areLetters (p_s : Str) (p_most : Int) : Bool :=
  loopE (loopM (B_i_areLetters_0 p_s p_most) (p_s.length - 0) 0 ()) (fun r => r) (fun _ =>
    (i_within (p_s.length : Int) 1 p_most))
def B_g_slices_Index_string_0 (p_s : List Str) (p_v : Str) (k4 : Nat) : Unit → Out Int Unit
  | () => bif p_v == (p_s.getD k4 d_Str) then
      .ret (k4 : Int)
    else
      .cont ()
def g_slices_Index_string (p_s : List Str) (p_v : Str) : Int :=
  loopE (loopM (B_g_slices_Index_string_0 p_s p_v) (p_s.length - 0) 0 ()) (fun r => r) (fun _ =>
    -1)
def g_slices_Contains_string (p_s : List Str) (p_v : Str) : Bool :=
  decide (0 ≤ (g_slices_Index_string p_s p_v))
def i_isStage (p_stage : Int) : Bool :=
  (i_within p_stage 0 3)
def B_i_GoodTable_0 (p_0 : DTable) (k19 : Nat) : Unit → Out Bool Unit
  | () => bif i_areLetters (p_0.Cols.getD k19 d_Str) 3 then
      bif g_slices_Contains_string (p_0.Cols.take k19) (p_0.Cols.getD k19 d_Str) then
        .ret false
      else
        .cont ()
    else
      .ret false
def B_i_GoodTable_1 (p_0 : DTable) (k35 : Nat) : Unit → Out Bool Unit
  | () => bif i_areLetters ((p_0.Idxs.getD k35 d_Idx).Name) 1 then
      bif i_within ((p_0.Idxs.getD k35 d_Idx).Col) 1 (IntKind.wrap .i64 ((p_0.Cols.length : Int) - 1)) then
        bif i_isStage ((p_0.Idxs.getD k35 d_Idx).Stage) then
          bif decide (0 < (k35 : Int)) then
            bif sLe ((p_0.Idxs.getD k35 d_Idx).Name) ((p_0.Idxs.getD ((IntKind.wrap .i64 ((k35 : Int) - 1)).toNat) d_Idx).Name) then
              .ret false
            else
              .cont ()
          else
            .cont ()
        else
          .ret false
      else
        .ret false
    else
      .ret false
def i_GoodTable (p_0 : DTable) : Bool :=
  bif i_areLetters p_0.Name 1 then
    bif i_within (p_0.Cols.length : Int) 2 4 then
      bif decide (3 < (p_0.Idxs.length : Int)) then
        false
      else
        loopE (loopM (B_i_GoodTable_0 p_0) (p_0.Cols.length - 0) 0 ()) (fun r => r) (fun _ =>
          loopE (loopM (B_i_GoodTable_1 p_0) (p_0.Idxs.length - 0) 0 ()) (fun r => r) (fun _ =>
            true))
    else
      false
  else
    false
def B_g_slices_IndexFunc_string_0 (p_s : List Str) (p_f : Str → Bool) (k7 : Nat) : Unit → Out Int Unit
  | () => bif p_f (p_s.getD k7 d_Str) then
      .ret (k7 : Int)
    else
      .cont ()
def g_slices_IndexFunc_string (p_s : List Str) (p_f : Str → Bool) : Int :=
  loopE (loopM (B_g_slices_IndexFunc_string_0 p_s p_f) (p_s.length - 0) 0 ()) (fun r => r) (fun _ =>
    -1)
def g_slices_ContainsFunc_string (p_s : List Str) (p_f : Str → Bool) : Bool :=
  decide (0 ≤ (g_slices_IndexFunc_string p_s p_f))
def i_isLowerOrDigit (p_b : Int) : Bool :=
  bif decide (97 ≤ p_b) then
    bif decide (p_b ≤ 122) then
      true
    else
      bif decide (48 ≤ p_b) then
        decide (p_b ≤ 57)
      else
        false
  else
    bif decide (48 ≤ p_b) then
      decide (p_b ≤ 57)
    else
      false
def g_internal_stringslite_IndexByte (p_s : Str) (p_c : Int) : Int :=
  idxB p_s p_c
def g_strings_IndexByte (p_s : Str) (p_c : Int) : Int :=
  (g_internal_stringslite_IndexByte p_s p_c)
def B_i_hasBytes_0 (p_s : Str) (p_others : Str) (k3 : Nat) : Unit → Out Bool Unit
  | () => bif i_isLowerOrDigit ((p_s.getD k3 0).toNat : Int) then
      .cont ()
    else
      bif decide ((g_strings_IndexByte p_others ((p_s.getD k3 0).toNat : Int)) < 0) then
        .ret false
      else
        .cont ()
def i_hasBytes (p_s : Str) (p_others : Str) : Bool :=
  loopE (loopM (B_i_hasBytes_0 p_s p_others) (p_s.length - 0) 0 ()) (fun r => r) (fun _ =>
    true)
def i_isField (p_s : Str) : Bool :=
  bif i_within (p_s.length : Int) 1 3 then
    (i_hasBytes p_s ([] : Str))
  else
    false
def i_Table_isRow_c1 (p_s : Str) : Bool :=
  !(i_isField p_s)
def i_Table_isRow (p_t : DTable) (p_r : DRow) : Bool :=
  bif decide ((p_r.Vals.length : Int) = (p_t.Cols.length : Int)) then
    !(g_slices_ContainsFunc_string p_r.Vals (fun y0 => i_Table_isRow_c1 y0))
  else
    false
def i_GoodRow (p_t : DTable) (p_r : DRow) : Bool :=
  bif i_GoodTable p_t then
    (i_Table_isRow p_t p_r)
  else
    false
def B_g_slices_IndexFunc_Idx_0 (p_s : List DIdx) (p_f : DIdx → Bool) (k7 : Nat) : Unit → Out Int Unit
  | () => bif p_f (p_s.getD k7 d_Idx) then
      .ret (k7 : Int)
    else
      .cont ()
def g_slices_IndexFunc_Idx (p_s : List DIdx) (p_f : DIdx → Bool) : Int :=
  loopE (loopM (B_g_slices_IndexFunc_Idx_0 p_s p_f) (p_s.length - 0) 0 ()) (fun r => r) (fun _ =>
    -1)
def i_Table_findIdx_c1 (p_x : DIdx) (p_cap0 : Str) : Bool :=
  p_x.Name == p_cap0
def i_Table_findIdx (p_t : DTable) (pn : Str) : Int :=
  (g_slices_IndexFunc_Idx p_t.Idxs (fun y0 => i_Table_findIdx_c1 y0 pn))
def i_hasIdx (p_t : DTable) (pn : Str) : Bool :=
  bif i_GoodTable p_t then
    decide (0 ≤ (i_Table_findIdx p_t pn))
  else
    false
def g_strings_Join (p_elems : List Str) (p_sep : Str) : Str :=
  p_sep.intercalate p_elems
def i_Table_rowWrite (p_t : DTable) (p_r : DRow) : DWrite :=
  (⟨(p_t.Name ++ ([47] : Str)) ++ (p_r.Vals.getD 0 d_Str), (g_strings_Join (p_r.Vals.drop 1) ([44] : Str)), false⟩ : DWrite)
def i_Table_idxHead (p_t : DTable) (pn : Str) : Str :=
  ((p_t.Name ++ ([46] : Str)) ++ pn) ++ ([47] : Str)
def i_Table_idx (p_t : DTable) (pn : Str) : DIdx :=
  (p_t.Idxs.getD (((i_Table_findIdx p_t pn)).toNat) d_Idx)
def i_Table_idxKey (p_t : DTable) (pn : Str) (p_r : DRow) : Str :=
  (((i_Table_idxHead p_t pn) ++ (p_r.Vals.getD (((i_Table_idx p_t pn).Col).toNat) d_Str)) ++ ([47] : Str)) ++ (p_r.Vals.getD 0 d_Str)
def i_Table_fillOps (p_t : DTable) (pn : Str) (p_r : DRow) : List DOp :=
  ([(⟨7, (i_Table_rowWrite p_t p_r).Key, (i_Table_rowWrite p_t p_r).Val, 0⟩ : DOp), (⟨2, (i_Table_idxKey p_t pn p_r), ([] : Str), 0⟩ : DOp)] : List DOp)
def i_FillOps (p_t : DTable) (pn : Str) (p_r : DRow) : (List DOp) × Bool :=
  bif i_GoodRow p_t p_r then
    bif i_hasIdx p_t pn then
      ((i_Table_fillOps p_t pn p_r), true)
    else
      (([] : List DOp), false)
  else
    (([] : List DOp), false)
def B_s_l24Idx_0 (p_t : DTable) (pn : Str) (k11 : Nat) : Unit → Out Int Unit
  | () => bif ((p_t.Idxs.getD k11 d_Idx).Name) == pn then
      .ret (k11 : Int)
    else
      .cont ()
def s_l24Idx (p_t : DTable) (pn : Str) : Int :=
  loopE (loopM (B_s_l24Idx_0 p_t pn) (p_t.Idxs.length - 0) 0 ()) (fun r => r) (fun _ =>
    -1)
def B_s_l24Letters_0 (p_s : Str) (p_most : Int) (k2 : Nat) : Unit → Out Bool Unit
  | () => bif decide (((p_s.getD k2 0).toNat : Int) < 97) then
      .ret false
    else
      bif decide (122 < ((p_s.getD k2 0).toNat : Int)) then
        .ret false
      else
        .cont ()
def s_l24Letters (p_s : Str) (p_most : Int) : Bool :=
  loopE (loopM (B_s_l24Letters_0 p_s p_most) (p_s.length - 0) 0 ()) (fun r => r) (fun _ =>
    bif decide (1 ≤ (p_s.length : Int)) then
      decide ((p_s.length : Int) ≤ p_most)
    else
      false)
def s_l1In (p_n : Int) (p_lo : Int) (p_hi : Int) : Bool :=
  bif decide (p_lo ≤ p_n) then
    decide (p_n ≤ p_hi)
  else
    false
def B_s_l24At_0 (p_l : List Str) (p_s : Str) (k4 : Nat) : Unit → Out Int Unit
  | () => bif (p_l.getD k4 d_Str) == p_s then
      .ret (k4 : Int)
    else
      .cont ()
def s_l24At (p_l : List Str) (p_s : Str) : Int :=
  loopE (loopM (B_s_l24At_0 p_l p_s) (p_l.length - 0) 0 ()) (fun r => r) (fun _ =>
    -1)
def B_s_l24Cols_0 (p_l : List Str) (k3 : Nat) : Unit → Out Bool Unit
  | () => bif s_l24Letters (p_l.getD k3 d_Str) 3 then
      bif decide (0 ≤ (s_l24At (p_l.take k3) (p_l.getD k3 d_Str))) then
        .ret false
      else
        .cont ()
    else
      .ret false
def s_l24Cols (p_l : List Str) : Bool :=
  loopE (loopM (B_s_l24Cols_0 p_l) (p_l.length - 0) 0 ()) (fun r => r) (fun _ =>
    (s_l1In (p_l.length : Int) 2 4))
def B_s_GoodTable_0 (p_0 : DTable) (k19 : Nat) : Unit → Out Bool Unit
  | () => bif s_l24Letters ((p_0.Idxs.getD k19 d_Idx).Name) 1 then
      bif s_l1In ((p_0.Idxs.getD k19 d_Idx).Col) 1 (IntKind.wrap .i64 ((p_0.Cols.length : Int) - 1)) then
        bif s_l1In ((p_0.Idxs.getD k19 d_Idx).Stage) 0 3 then
          bif decide (0 < (k19 : Int)) then
            bif sLt ((p_0.Idxs.getD ((IntKind.wrap .i64 ((k19 : Int) - 1)).toNat) d_Idx).Name) ((p_0.Idxs.getD k19 d_Idx).Name) then
              .cont ()
            else
              .ret false
          else
            .cont ()
        else
          .ret false
      else
        .ret false
    else
      .ret false
def s_GoodTable (p_0 : DTable) : Bool :=
  bif s_l24Letters p_0.Name 1 then
    bif s_l24Cols p_0.Cols then
      bif decide (3 < (p_0.Idxs.length : Int)) then
        false
      else
        loopE (loopM (B_s_GoodTable_0 p_0) (p_0.Idxs.length - 0) 0 ()) (fun r => r) (fun _ =>
          true)
    else
      false
  else
    false
def s_IdxAt (p_t : DTable) (pn : Str) : DIdx × Bool :=
  bif s_GoodTable p_t then
    bif decide ((s_l24Idx p_t pn) < 0) then
      ((⟨([] : Str), 0, 0⟩ : DIdx), false)
    else
      ((p_t.Idxs.getD (((s_l24Idx p_t pn)).toNat) d_Idx), true)
  else
    ((⟨([] : Str), 0, 0⟩ : DIdx), false)
def B_s_l3Bytes_1 (p_s : Str) (p_more : Str) (k3 : Nat) (k6 : Nat) : Bool → Out Bool Bool
  | (x7) => bif x7 then
      .cont (true)
    else
      .cont (decide (((p_s.getD k3 0).toNat : Int) = ((p_more.getD k6 0).toNat : Int)))
def B_s_l3Bytes_0 (p_s : Str) (p_more : Str) (k3 : Nat) : Unit → Out Bool Unit
  | () => bif decide (97 ≤ ((p_s.getD k3 0).toNat : Int)) then
      bif decide (((p_s.getD k3 0).toNat : Int) ≤ 122) then
        loopE (loopM (B_s_l3Bytes_1 p_s p_more k3) (p_more.length - 0) 0 (true)) (fun r => Out.ret r) (fun x7 =>
          bif x7 then
            .cont ()
          else
            .ret false)
      else
        bif decide (48 ≤ ((p_s.getD k3 0).toNat : Int)) then
          loopE (loopM (B_s_l3Bytes_1 p_s p_more k3) (p_more.length - 0) 0 (decide (((p_s.getD k3 0).toNat : Int) ≤ 57))) (fun r => Out.ret r) (fun x12 =>
            bif x12 then
              .cont ()
            else
              .ret false)
        else
          loopE (loopM (B_s_l3Bytes_1 p_s p_more k3) (p_more.length - 0) 0 (false)) (fun r => Out.ret r) (fun x15 =>
            bif x15 then
              .cont ()
            else
              .ret false)
    else
      bif decide (48 ≤ ((p_s.getD k3 0).toNat : Int)) then
        loopE (loopM (B_s_l3Bytes_1 p_s p_more k3) (p_more.length - 0) 0 (decide (((p_s.getD k3 0).toNat : Int) ≤ 57))) (fun r => Out.ret r) (fun x19 =>
          bif x19 then
            .cont ()
          else
            .ret false)
      else
        loopE (loopM (B_s_l3Bytes_1 p_s p_more k3) (p_more.length - 0) 0 (false)) (fun r => Out.ret r) (fun x22 =>
          bif x22 then
            .cont ()
          else
            .ret false)
def s_l3Bytes (p_s : Str) (p_more : Str) : Bool :=
  loopE (loopM (B_s_l3Bytes_0 p_s p_more) (p_s.length - 0) 0 ()) (fun r => r) (fun _ =>
    true)
def s_l25Field (p_s : Str) : Bool :=
  bif s_l1In (p_s.length : Int) 1 3 then
    (s_l3Bytes p_s ([] : Str))
  else
    false
def B_s_l25Good_0 (p_t : DTable) (p_r : DRow) (k18 : Nat) : Unit → Out Bool Unit
  | () => bif s_l25Field (p_r.Vals.getD k18 d_Str) then
      .cont ()
    else
      .ret false
def s_l25Good (p_t : DTable) (p_r : DRow) : Bool :=
  loopE (loopM (B_s_l25Good_0 p_t p_r) (p_r.Vals.length - 0) 0 ()) (fun r => r) (fun _ =>
    decide ((p_r.Vals.length : Int) = (p_t.Cols.length : Int)))
def B_s_l24Join_0 (p_l : List Str) (p_by : Str) (k4 : Nat) : Str → Out Str Str
  | (x12) => bif decide (0 < (k4 : Int)) then
      .cont ((x12 ++ p_by) ++ (p_l.getD k4 d_Str))
    else
      .cont (x12 ++ (p_l.getD k4 d_Str))
def s_l24Join (p_l : List Str) (p_by : Str) : Str :=
  loopE (loopM (B_s_l24Join_0 p_l p_by) (p_l.length - 0) 0 (([] : Str))) (fun r => r) (fun x12 =>
    x12)
def s_l25Write (p_t : DTable) (p_r : DRow) : DWrite :=
  (⟨(p_t.Name ++ ([47] : Str)) ++ (p_r.Vals.getD 0 d_Str), (s_l24Join (p_r.Vals.drop 1) ([44] : Str)), false⟩ : DWrite)
def s_l25Entry (p_t : DTable) (p_x : DIdx) (p_r : DRow) : Str :=
  (((((p_t.Name ++ ([46] : Str)) ++ p_x.Name) ++ ([47] : Str)) ++ (p_r.Vals.getD ((p_x.Col).toNat) d_Str)) ++ ([47] : Str)) ++ (p_r.Vals.getD 0 d_Str)
def s_l26Fill (p_t : DTable) (p_x : DIdx) (p_r : DRow) : List DOp :=
  ([(⟨7, (s_l25Write p_t p_r).Key, (s_l25Write p_t p_r).Val, 0⟩ : DOp), (⟨2, (s_l25Entry p_t p_x p_r), ([] : Str), 0⟩ : DOp)] : List DOp)
def s_FillOps (p_t : DTable) (pn : Str) (p_r : DRow) : (List DOp) × Bool :=
  bif (s_IdxAt p_t pn).2 then
    bif s_l25Good p_t p_r then
      ((s_l26Fill p_t ((s_IdxAt p_t pn).1) p_r), true)
    else
      (([] : List DOp), false)
  else
    (([] : List DOp), false)
def B_u_spoilt_0 (pC : List Int) (p_0 : Int × Int) (p_1 : Str) (p_2 : Str) : Str × Int × Int × Int → Out (Str × (Int × Int)) (Str × Int × Int × Int)
  | (x104, x105, x106, x107) => bif decide (0 < x105) then
      bif decide (0 < (x104.length : Int)) then
        bif decide (((u_pick pC ((u_pick pC ((u_pick pC (x106, x107) (x104.length : Int)).2) (p_2.length : Int)).2) 3).1) = 0) then
          .cont (((x104.take (((u_pick pC (x106, x107) (x104.length : Int)).1).toNat)) ++ (toS ([((p_2.getD ((u_pick pC ((u_pick pC (x106, x107) (x104.length : Int)).2) (p_2.length : Int)).1).toNat 0).toNat : Int)] : List Int))) ++ (x104.drop (((u_pick pC (x106, x107) (x104.length : Int)).1).toNat)), IntKind.wrap .i64 (x105 - 1), ((u_pick pC ((u_pick pC ((u_pick pC (x106, x107) (x104.length : Int)).2) (p_2.length : Int)).2) 3).2).1, ((u_pick pC ((u_pick pC ((u_pick pC (x106, x107) (x104.length : Int)).2) (p_2.length : Int)).2) 3).2).2)
        else
          bif decide (((u_pick pC ((u_pick pC ((u_pick pC (x106, x107) (x104.length : Int)).2) (p_2.length : Int)).2) 3).1) = 1) then
            .cont (((x104.take (((u_pick pC (x106, x107) (x104.length : Int)).1).toNat)) ++ (toS ([((p_2.getD ((u_pick pC ((u_pick pC (x106, x107) (x104.length : Int)).2) (p_2.length : Int)).1).toNat 0).toNat : Int)] : List Int))) ++ (x104.drop ((IntKind.wrap .i64 (((u_pick pC (x106, x107) (x104.length : Int)).1) + 1)).toNat)), IntKind.wrap .i64 (x105 - 1), ((u_pick pC ((u_pick pC ((u_pick pC (x106, x107) (x104.length : Int)).2) (p_2.length : Int)).2) 3).2).1, ((u_pick pC ((u_pick pC ((u_pick pC (x106, x107) (x104.length : Int)).2) (p_2.length : Int)).2) 3).2).2)
          else
            .cont ((x104.take (((u_pick pC (x106, x107) (x104.length : Int)).1).toNat)) ++ (x104.drop ((IntKind.wrap .i64 (((u_pick pC (x106, x107) (x104.length : Int)).1) + 1)).toNat)), IntKind.wrap .i64 (x105 - 1), ((u_pick pC ((u_pick pC ((u_pick pC (x106, x107) (x104.length : Int)).2) (p_2.length : Int)).2) 3).2).1, ((u_pick pC ((u_pick pC ((u_pick pC (x106, x107) (x104.length : Int)).2) (p_2.length : Int)).2) 3).2).2)
      else
        .brk (x104, x105, x106, x107)
    else
      .brk (x104, x105, x106, x107)
def u_spoilt (pC : List Int) (p_0 : Int × Int) (p_1 : Str) (p_2 : Str) : Str × (Int × Int) :=
  loopE (loopW (B_u_spoilt_0 pC p_0 p_1 p_2) (((IntKind.wrap .i64 (1 + ((u_pick pC p_0 2).1))).toNat) + 1) (p_1, IntKind.wrap .i64 (1 + ((u_pick pC p_0 2).1)), ((u_pick pC p_0 2).2).1, ((u_pick pC p_0 2).2).2)) (fun r => r) (fun (x104, x105, x106, x107) =>
    (x104, (x106, x107)))
def s_DrawReadIdxKey (p_code : List Int) : DTable × Str × Str :=
  bif (u_one p_code ((u_of p_code ((u_of p_code ((u_of p_code ((u_table p_code (0, 0)).2) ([[105], [105], [105], [106], [109], [122]] : List Str)).2) ([[120], [121], [97, 98, 99]] : List Str)).2) ([[49], [97], [122, 122]] : List Str)).2) 3).1 then
    ((u_table p_code (0, 0)).1, (u_of p_code ((u_table p_code (0, 0)).2) ([[105], [105], [105], [106], [109], [122]] : List Str)).1, (u_spoilt p_code ((u_one p_code ((u_of p_code ((u_of p_code ((u_of p_code ((u_table p_code (0, 0)).2) ([[105], [105], [105], [106], [109], [122]] : List Str)).2) ([[120], [121], [97, 98, 99]] : List Str)).2) ([[49], [97], [122, 122]] : List Str)).2) 3).2) ((((((((u_table p_code (0, 0)).1.Name) ++ ([46] : Str)) ++ ((u_of p_code ((u_table p_code (0, 0)).2) ([[105], [105], [105], [106], [109], [122]] : List Str)).1)) ++ ([47] : Str)) ++ ((u_of p_code ((u_of p_code ((u_table p_code (0, 0)).2) ([[105], [105], [105], [106], [109], [122]] : List Str)).2) ([[120], [121], [97, 98, 99]] : List Str)).1)) ++ ([47] : Str)) ++ ((u_of p_code ((u_of p_code ((u_of p_code ((u_table p_code (0, 0)).2) ([[105], [105], [105], [106], [109], [122]] : List Str)).2) ([[120], [121], [97, 98, 99]] : List Str)).2) ([[49], [97], [122, 122]] : List Str)).1)) ([97, 47, 46, 49, 105] : Str)).1)
  else
    ((u_table p_code (0, 0)).1, (u_of p_code ((u_table p_code (0, 0)).2) ([[105], [105], [105], [106], [109], [122]] : List Str)).1, (((((((u_table p_code (0, 0)).1.Name) ++ ([46] : Str)) ++ ((u_of p_code ((u_table p_code (0, 0)).2) ([[105], [105], [105], [106], [109], [122]] : List Str)).1)) ++ ([47] : Str)) ++ ((u_of p_code ((u_of p_code ((u_table p_code (0, 0)).2) ([[105], [105], [105], [106], [109], [122]] : List Str)).2) ([[120], [121], [97, 98, 99]] : List Str)).1)) ++ ([47] : Str)) ++ ((u_of p_code ((u_of p_code ((u_of p_code ((u_table p_code (0, 0)).2) ([[105], [105], [105], [106], [109], [122]] : List Str)).2) ([[120], [121], [97, 98, 99]] : List Str)).2) ([[49], [97], [122, 122]] : List Str)).1))
def s_DrawClearOps (p_code : List Int) : DTable × Str × Str :=
  ((s_DrawReadIdxKey p_code).1, (s_DrawReadIdxKey p_code).2.1, (s_DrawReadIdxKey p_code).2.2)
def g_internal_stringslite_HasPrefix (p_s : Str) (p_prefix : Str) : Bool :=
  bif decide ((p_prefix.length : Int) ≤ (p_s.length : Int)) then
    (p_s.take p_prefix.length) == p_prefix
  else
    false
def g_internal_stringslite_CutPrefix (p_s : Str) (p_prefix : Str) : Str × Bool :=
  bif g_internal_stringslite_HasPrefix p_s p_prefix then
    ((p_s.drop p_prefix.length), true)
  else
    (p_s, false)
def g_strings_CutPrefix (p_s : Str) (p_prefix : Str) : Str × Bool :=
  ((g_internal_stringslite_CutPrefix p_s p_prefix).1, (g_internal_stringslite_CutPrefix p_s p_prefix).2)
def g_internal_bytealg_Cutover (p_n : Int) : Int :=
  IntKind.wrap .i64 (Int.tdiv (IntKind.wrap .i64 (p_n + 16)) 8)
def g_internal_stringslite_Index (p_0 : Str) (p_1 : Str) : Int :=
  bif p_1 == p_0 then
    0
  else
    (g_internal_stringslite_IndexByte p_0 ((p_1.getD 0 0).toNat : Int))
def g_internal_stringslite_Cut (p_s : Str) (p_sep : Str) : Str × Str × Bool :=
  bif decide (0 ≤ (g_internal_stringslite_Index p_s p_sep)) then
    ((p_s.take (((g_internal_stringslite_Index p_s p_sep)).toNat)), (p_s.drop ((IntKind.wrap .i64 ((g_internal_stringslite_Index p_s p_sep) + (p_sep.length : Int))).toNat)), true)
  else
    (p_s, ([] : Str), false)
def g_strings_Cut (p_s : Str) (p_sep : Str) : Str × Str × Bool :=
  ((g_internal_stringslite_Cut p_s p_sep).1, (g_internal_stringslite_Cut p_s p_sep).2.1, (g_internal_stringslite_Cut p_s p_sep).2.2)
def i_Table_readIdxKey (p_t : DTable) (pn : Str) (p_key : Str) : Str × Str × Bool :=
  bif (g_strings_CutPrefix p_key (i_Table_idxHead p_t pn)).2 then
    bif (g_strings_Cut ((g_strings_CutPrefix p_key (i_Table_idxHead p_t pn)).1) ([47] : Str)).2.2 then
      bif i_isField ((g_strings_Cut ((g_strings_CutPrefix p_key (i_Table_idxHead p_t pn)).1) ([47] : Str)).1) then
        bif i_isField ((g_strings_Cut ((g_strings_CutPrefix p_key (i_Table_idxHead p_t pn)).1) ([47] : Str)).2.1) then
          ((g_strings_Cut ((g_strings_CutPrefix p_key (i_Table_idxHead p_t pn)).1) ([47] : Str)).1, (g_strings_Cut ((g_strings_CutPrefix p_key (i_Table_idxHead p_t pn)).1) ([47] : Str)).2.1, true)
        else
          (([] : Str), ([] : Str), false)
      else
        (([] : Str), ([] : Str), false)
    else
      (([] : Str), ([] : Str), false)
  else
    (([] : Str), ([] : Str), false)
def i_ReadIdxKey (p_t : DTable) (pn : Str) (p_key : Str) : Str × Str × Bool :=
  bif i_hasIdx p_t pn then
    ((i_Table_readIdxKey p_t pn p_key).1, (i_Table_readIdxKey p_t pn p_key).2.1, (i_Table_readIdxKey p_t pn p_key).2.2)
  else
    (([] : Str), ([] : Str), false)
def i_ClearOps (p_t : DTable) (pn : Str) (p_key : Str) : (List DOp) × Bool :=
  bif (i_ReadIdxKey p_t pn p_key).2.2 then
    (([(⟨3, p_key, ([] : Str), 0⟩ : DOp)] : List DOp), true)
  else
    (([] : List DOp), false)
def B_s_l1Split_0 (p_s : Str) (p_b : Int) (k2 : Nat) : (List Str) × Int → Out (List Str) ((List Str) × Int)
  | (x20, x24) => bif decide (((p_s.getD k2 0).toNat : Int) = p_b) then
      .cont ((x20 ++ ([((p_s.take k2).drop ((x24).toNat))] : List Str)), ((k2 + 1 : Nat) : Int))
    else
      .cont (x20, x24)
def s_l1Split (p_s : Str) (p_b : Int) : List Str :=
  loopE (loopM (B_s_l1Split_0 p_s p_b) (p_s.length - 0) 0 (([] : List Str), 0)) (fun r => r) (fun (x20, x24) =>
    (x20 ++ ([(p_s.drop ((x24).toNat))] : List Str)))
def s_l25ReadEntry (p_t : DTable) (pn : Str) (p_key : Str) : Str × Str × Bool :=
  bif decide (((s_l1Split p_key 47).length : Int) = 3) then
    bif ((s_l1Split p_key 47).getD 0 d_Str) == ((p_t.Name ++ ([46] : Str)) ++ pn) then
      bif s_l25Field ((s_l1Split p_key 47).getD 1 d_Str) then
        bif s_l25Field ((s_l1Split p_key 47).getD 2 d_Str) then
          (((s_l1Split p_key 47).getD 1 d_Str), ((s_l1Split p_key 47).getD 2 d_Str), true)
        else
          (([] : Str), ([] : Str), false)
      else
        (([] : Str), ([] : Str), false)
    else
      (([] : Str), ([] : Str), false)
  else
    (([] : Str), ([] : Str), false)
def s_ReadIdxKey (p_t : DTable) (pn : Str) (p_key : Str) : Str × Str × Bool :=
  bif (s_IdxAt p_t pn).2 then
    bif (s_l25ReadEntry p_t pn p_key).2.2 then
      ((s_l25ReadEntry p_t pn p_key).1, (s_l25ReadEntry p_t pn p_key).2.1, true)
    else
      (([] : Str), ([] : Str), false)
  else
    (([] : Str), ([] : Str), false)
def s_ClearOps (p_t : DTable) (pn : Str) (p_key : Str) : (List DOp) × Bool :=
  bif (s_ReadIdxKey p_t pn p_key).2.2 then
    (([(⟨3, p_key, ([] : Str), 0⟩ : DOp)] : List DOp), true)
  else
    (([] : List DOp), false)
def B_l_qSameOps_0 (p_a : List DOp) (p_b : List DOp) (k6 : Nat) : Unit → Out Bool Unit
  | () => bif (decide (((p_a.getD k6 d_Op).Kind) = ((p_b.getD k6 d_Op).Kind))) && ((((p_a.getD k6 d_Op).Key) == ((p_b.getD k6 d_Op).Key)) && ((((p_a.getD k6 d_Op).Val) == ((p_b.getD k6 d_Op).Val)) && (decide (((p_a.getD k6 d_Op).By) = ((p_b.getD k6 d_Op).By))))) then
      .cont ()
    else
      .ret false
def l_qSameOps (p_a : List DOp) (p_b : List DOp) : Bool :=
  bif decide ((p_a.length : Int) = (p_b.length : Int)) then
    loopE (loopM (B_l_qSameOps_0 p_a p_b) (p_a.length - 0) 0 ()) (fun r => r) (fun _ =>
      true)
  else
    false
def s_GoodRow (p_t : DTable) (p_r : DRow) : Bool :=
  bif s_GoodTable p_t then
    (s_l25Good p_t p_r)
  else
    false
def s_RowWrite (p_t : DTable) (p_r : DRow) : DWrite × Bool :=
  bif s_GoodRow p_t p_r then
    ((s_l25Write p_t p_r), true)
  else
    ((⟨([] : Str), ([] : Str), false⟩ : DWrite), false)
def s_l3Key (p_s : Str) : Bool :=
  bif s_l1In (p_s.length : Int) 1 12 then
    (s_l3Bytes p_s ([46, 47] : Str))
  else
    false
def s_l3Val (p_s : Str) : Bool :=
  bif decide ((p_s.length : Int) ≤ 24) then
    (s_l3Bytes p_s ([46, 45, 44, 95] : Str))
  else
    false
def s_l3Write (p_key : Str) (p_val : Str) (p_gone : Bool) : Bool :=
  bif s_l3Key p_key then
    bif s_l3Val p_val then
      bif p_gone then
        p_val == ([] : Str)
      else
        true
    else
      false
  else
    false
def B_s_l3Writes_0 (p_l : List DWrite) (k3 : Nat) : Unit → Out Bool Unit
  | () => bif s_l3Write ((p_l.getD k3 d_Write).Key) ((p_l.getD k3 d_Write).Val) ((p_l.getD k3 d_Write).Gone) then
      bif decide (0 < (k3 : Int)) then
        bif sLt ((p_l.getD ((IntKind.wrap .i64 ((k3 : Int) - 1)).toNat) d_Write).Key) ((p_l.getD k3 d_Write).Key) then
          .cont ()
        else
          .ret false
      else
        .cont ()
    else
      .ret false
def s_l3Writes (p_l : List DWrite) : Bool :=
  loopE (loopM (B_s_l3Writes_0 p_l) (p_l.length - 0) 0 ()) (fun r => r) (fun _ =>
    decide ((p_l.length : Int) ≤ 24))
def B_s_l5Rows_0 (p_l : List DWrite) (k3 : Nat) : Unit → Out Bool Unit
  | () => bif (p_l.getD k3 d_Write).Gone then
      .ret false
    else
      .cont ()
def s_l5Rows (p_l : List DWrite) : Bool :=
  loopE (loopM (B_s_l5Rows_0 p_l) (p_l.length - 0) 0 ()) (fun r => r) (fun _ =>
    (s_l3Writes p_l))
def s_l5Op (p_o : DOp) : Bool :=
  bif s_l3Key p_o.Key then
    bif decide (p_o.Kind = 2) then
      bif s_l3Val p_o.Val then
        decide (p_o.By = 0)
      else
        false
    else
      bif decide (p_o.Kind = 7) then
        bif s_l3Val p_o.Val then
          decide (p_o.By = 0)
        else
          false
      else
        bif decide (p_o.Kind = 4) then
          bif p_o.Val == ([] : Str) then
            (s_l1In p_o.By (-9999) 9999)
          else
            false
        else
          bif decide (p_o.Kind = 5) then
            bif p_o.Val == ([] : Str) then
              (s_l1In p_o.By (-9999) 9999)
            else
              false
          else
            bif decide (p_o.Kind = 1) then
              bif p_o.Val == ([] : Str) then
                decide (p_o.By = 0)
              else
                false
            else
              bif decide (p_o.Kind = 3) then
                bif p_o.Val == ([] : Str) then
                  decide (p_o.By = 0)
                else
                  false
              else
                bif decide (p_o.Kind = 6) then
                  bif p_o.Val == ([] : Str) then
                    decide (p_o.By = 0)
                  else
                    false
                else
                  false
  else
    false
def B_s_l5Good_0 (p_l : List DOp) (k3 : Nat) : Unit → Out Bool Unit
  | () => bif s_l5Op (p_l.getD k3 d_Op) then
      .cont ()
    else
      .ret false
def s_l5Good (p_l : List DOp) : Bool :=
  loopE (loopM (B_s_l5Good_0 p_l) (p_l.length - 0) 0 ()) (fun r => r) (fun _ =>
    decide ((p_l.length : Int) ≤ 8))
def B_s_l5PutW_0 (p_l : List DWrite) (p_w : DWrite) : Int → Out (List DWrite) Int
  | (x11) => bif decide (0 < x11) then
      bif sLe ((p_l.getD ((IntKind.wrap .i64 (x11 - 1)).toNat) d_Write).Key) p_w.Key then
        .brk (x11)
      else
        .cont (IntKind.wrap .i64 (x11 - 1))
    else
      .brk (x11)
def s_l5PutW (p_l : List DWrite) (p_w : DWrite) : List DWrite :=
  loopE (loopW (B_s_l5PutW_0 p_l p_w) ((((p_l.length : Int)).toNat) + 1) ((p_l.length : Int))) (fun r => r) (fun x11 =>
    bif decide (0 < x11) then
      bif ((p_l.getD ((IntKind.wrap .i64 (x11 - 1)).toNat) d_Write).Key) == p_w.Key then
        ((([] : List DWrite) ++ p_l).set ((IntKind.wrap .i64 (x11 - 1)).toNat) p_w)
      else
        (((([] : List DWrite) ++ (p_l.take ((x11).toNat))) ++ ([p_w] : List DWrite)) ++ (([] : List DWrite) ++ (p_l.drop ((x11).toNat))))
    else
      (((([] : List DWrite) ++ (p_l.take ((x11).toNat))) ++ ([p_w] : List DWrite)) ++ (([] : List DWrite) ++ (p_l.drop ((x11).toNat)))))
def B_s_l5Stands_0 (p_buf : List DWrite) (p_got : List DGot) (p_key : Str) (k6 : Nat) : Unit → Out (Str × Bool × Bool) Unit
  | () => bif ((p_buf.getD k6 d_Write).Key) == p_key then
      .ret ((p_buf.getD k6 d_Write).Val, !((p_buf.getD k6 d_Write).Gone), true)
    else
      .cont ()
def B_s_l5Stands_1 (p_buf : List DWrite) (p_got : List DGot) (p_key : Str) (k29 : Nat) : Unit → Out (Str × Bool × Bool) Unit
  | () => bif ((p_got.getD k29 d_Got).Key) == p_key then
      .ret ((p_got.getD k29 d_Got).Val, (p_got.getD k29 d_Got).There, true)
    else
      .cont ()
def s_l5Stands (p_buf : List DWrite) (p_got : List DGot) (p_key : Str) : Str × Bool × Bool :=
  loopE (loopM (B_s_l5Stands_0 p_buf p_got p_key) (p_buf.length - 0) 0 ()) (fun r => r) (fun _ =>
    loopE (loopM (B_s_l5Stands_1 p_buf p_got p_key) (p_got.length - 0) 0 ()) (fun r => r) (fun _ =>
      (([] : Str), false, false)))
def B_s_l1Read_0 (p_s : Str) (k8 : Nat) : Int → Out Int Int
  | (x9) => bif decide (((p_s.getD k8 0).toNat : Int) < 48) then
      .ret (-1)
    else
      bif decide (57 < ((p_s.getD k8 0).toNat : Int)) then
        .ret (-1)
      else
        .cont (IntKind.wrap .i64 ((IntKind.wrap .i64 (10 * x9)) + (IntKind.wrap .i64 (IntKind.wrap .u8 (((p_s.getD k8 0).toNat : Int) - 48)))))
def s_l1Read (p_s : Str) : Int :=
  bif s_l1In (p_s.length : Int) 1 6 then
    bif decide (((p_s.getD 0 0).toNat : Int) = 48) then
      bif decide (1 < (p_s.length : Int)) then
        -1
      else
        loopE (loopM (B_s_l1Read_0 p_s) (p_s.length - 0) 0 (0)) (fun r => r) (fun x9 =>
          x9)
    else
      loopE (loopM (B_s_l1Read_0 p_s) (p_s.length - 0) 0 (0)) (fun r => r) (fun x13 =>
        x13)
  else
    -1
def s_l5Num (p_s : Str) : Int × Bool :=
  bif decide (0 < (p_s.length : Int)) then
    bif decide (((p_s.getD 0 0).toNat : Int) = 45) then
      bif decide ((s_l1Read (p_s.drop 1)) < 0) then
        (0, false)
      else
        bif decide ((s_l1Read (p_s.drop 1)) = 0) then
          (0, false)
        else
          (IntKind.wrap .i64 (0 - (s_l1Read (p_s.drop 1))), true)
    else
      bif decide ((s_l1Read p_s) < 0) then
        (0, false)
      else
        ((s_l1Read p_s), true)
  else
    bif decide ((s_l1Read p_s) < 0) then
      (0, false)
    else
      ((s_l1Read p_s), true)
def s_l5Gives (p_o : DOp) (p_val : Str) (p_there : Bool) : Bool :=
  bif decide (p_o.Kind = 4) then
    bif p_there then
      bif (s_l5Num p_val).2 then
        !(s_l1In (IntKind.wrap .i64 (((s_l5Num p_val).1) + p_o.By)) (-999999) 999999)
      else
        true
    else
      false
  else
    bif decide (p_o.Kind = 5) then
      bif p_there then
        bif (s_l5Num p_val).2 then
          decide (((s_l5Num p_val).1) < p_o.By)
        else
          true
      else
        true
    else
      bif decide (p_o.Kind = 6) then
        p_there
      else
        bif decide (p_o.Kind = 7) then
          bif p_there then
            !(p_val == p_o.Val)
          else
            true
        else
          false
def s_l1Num (p_n : Int) : Str :=
  toS ([IntKind.wrap .u8 (IntKind.wrap .i64 (48 + p_n))] : List Int)
def s_l5Text (p_n : Int) : Str :=
  bif decide (p_n < 0) then
    ([45] : Str) ++ (s_l1Num (IntKind.wrap .i64 (0 - p_n)))
  else
    (s_l1Num p_n)
def B_s_l5Step_0 (p_0 : List DOp) (p_1 : List DGot) (k5 : Nat) : (List DWrite) → Out (Int × Str × (List DWrite)) (List DWrite)
  | (x174) => bif (s_l5Stands x174 p_1 ((p_0.getD k5 d_Op).Key)).2.2 then
      bif s_l5Gives (p_0.getD k5 d_Op) ((s_l5Stands x174 p_1 ((p_0.getD k5 d_Op).Key)).1) ((s_l5Stands x174 p_1 ((p_0.getD k5 d_Op).Key)).2.1) then
        .ret (2, ([] : Str), ([] : List DWrite))
      else
        bif decide (((p_0.getD k5 d_Op).Kind) = 2) then
          .cont ((s_l5PutW x174 (⟨(p_0.getD k5 d_Op).Key, (p_0.getD k5 d_Op).Val, false⟩ : DWrite)))
        else
          bif decide (((p_0.getD k5 d_Op).Kind) = 3) then
            .cont ((s_l5PutW x174 (⟨(p_0.getD k5 d_Op).Key, ([] : Str), true⟩ : DWrite)))
          else
            bif decide (((p_0.getD k5 d_Op).Kind) = 4) then
              bif (s_l5Stands x174 p_1 ((p_0.getD k5 d_Op).Key)).2.1 then
                .cont ((s_l5PutW x174 (⟨(p_0.getD k5 d_Op).Key, (s_l5Text (IntKind.wrap .i64 (((s_l5Num ((s_l5Stands x174 p_1 ((p_0.getD k5 d_Op).Key)).1)).1) + ((p_0.getD k5 d_Op).By)))), false⟩ : DWrite)))
              else
                .cont ((s_l5PutW x174 (⟨(p_0.getD k5 d_Op).Key, (s_l5Text (IntKind.wrap .i64 (0 + ((p_0.getD k5 d_Op).By)))), false⟩ : DWrite)))
            else
              .cont (x174)
    else
      bif decide (((p_0.getD k5 d_Op).Kind) = 2) then
        bif s_l5Gives (p_0.getD k5 d_Op) ((s_l5Stands x174 p_1 ((p_0.getD k5 d_Op).Key)).1) ((s_l5Stands x174 p_1 ((p_0.getD k5 d_Op).Key)).2.1) then
          .ret (2, ([] : Str), ([] : List DWrite))
        else
          .cont ((s_l5PutW x174 (⟨(p_0.getD k5 d_Op).Key, (p_0.getD k5 d_Op).Val, false⟩ : DWrite)))
      else
        bif decide (((p_0.getD k5 d_Op).Kind) = 3) then
          bif s_l5Gives (p_0.getD k5 d_Op) ((s_l5Stands x174 p_1 ((p_0.getD k5 d_Op).Key)).1) ((s_l5Stands x174 p_1 ((p_0.getD k5 d_Op).Key)).2.1) then
            .ret (2, ([] : Str), ([] : List DWrite))
          else
            .cont ((s_l5PutW x174 (⟨(p_0.getD k5 d_Op).Key, ([] : Str), true⟩ : DWrite)))
        else
          .ret (1, (p_0.getD k5 d_Op).Key, ([] : List DWrite))
def s_l5Step (p_0 : List DOp) (p_1 : List DGot) : Int × Str × (List DWrite) :=
  loopE (loopM (B_s_l5Step_0 p_0 p_1) (p_0.length - 0) 0 (([] : List DWrite))) (fun r => r) (fun x174 =>
    (3, ([] : Str), x174))
def B_s_l5Tell_0 (p_rows : List DWrite) (p_key : Str) (k10 : Nat) : Unit → Out DGot Unit
  | () => bif ((p_rows.getD k10 d_Write).Key) == p_key then
      .ret (⟨p_key, (p_rows.getD k10 d_Write).Val, true⟩ : DGot)
    else
      .cont ()
def s_l5Tell (p_rows : List DWrite) (p_key : Str) : DGot :=
  loopE (loopM (B_s_l5Tell_0 p_rows p_key) (p_rows.length - 0) 0 ()) (fun r => r) (fun _ =>
    (⟨p_key, ([] : Str), false⟩ : DGot))
def B_s_l5Alone_0 (p_rows : List DWrite) (p_l : List DOp) : (List DGot) → Out ((List DGot) × (List DWrite) × Bool) (List DGot)
  | (x38) => bif decide (((s_l5Step p_l x38).1) = 1) then
      .cont ((x38 ++ ([(s_l5Tell p_rows ((s_l5Step p_l x38).2.1))] : List DGot)))
    else
      .ret (x38, (s_l5Step p_l x38).2.2, decide (((s_l5Step p_l x38).1) = 3))
def s_l5Alone (p_rows : List DWrite) (p_l : List DOp) : (List DGot) × (List DWrite) × Bool :=
  loopE (loopW (B_s_l5Alone_0 p_rows p_l) (((p_l.filter fun o => !(([] : List DGot).any fun g => g.Key == o.Key)).length) + 1) (([] : List DGot))) (fun r => r) (fun x38 =>
    (([] : List DGot), ([] : List DWrite), false))
def B_s_l5PutRows_0 (p_rows : List DWrite) (p_w : List DWrite) (k26 : Nat) : (List DWrite) → Out (List DWrite) (List DWrite)
  | (x65) => .cont ((s_l5PutW x65 (p_w.getD k26 d_Write)))
def B_s_l5PutRows_1 (p_rows : List DWrite) (p_w : List DWrite) (x65 : List DWrite) (k88 : Nat) : (List DWrite) → Out (List DWrite) (List DWrite)
  | (x145) => bif (x65.getD k88 d_Write).Gone then
      .cont (x145)
    else
      .cont ((x145 ++ ([(x65.getD k88 d_Write)] : List DWrite)))
def s_l5PutRows (p_rows : List DWrite) (p_w : List DWrite) : List DWrite :=
  loopE (loopM (B_s_l5PutRows_0 p_rows p_w) (p_w.length - 0) 0 ((([] : List DWrite) ++ p_rows))) (fun r => r) (fun x65 =>
    loopE (loopM (B_s_l5PutRows_1 p_rows p_w x65) (x65.length - 0) 0 (([] : List DWrite))) (fun r => r) (fun x145 =>
      x145))
def B_s_RunInTurn_0 (p_0 : List DWrite) (p_1 : List (List DOp)) (k10 : Nat) : Unit → Out ((List DWrite) × (List Bool) × Bool) Unit
  | () => bif s_l5Good (p_1.getD k10 d_LOp) then
      .cont ()
    else
      .ret (([] : List DWrite), ([] : List Bool), false)
def B_s_RunInTurn_1 (p_0 : List DWrite) (p_1 : List (List DOp)) (k38 : Nat) : (List DWrite) × (List Bool) → Out ((List DWrite) × (List Bool) × Bool) ((List DWrite) × (List Bool))
  | (x119, x124) => bif (s_l5Alone x119 (p_1.getD k38 d_LOp)).2.2 then
      bif s_l5Rows (s_l5PutRows x119 ((s_l5Alone x119 (p_1.getD k38 d_LOp)).2.1)) then
        .cont ((s_l5PutRows x119 ((s_l5Alone x119 (p_1.getD k38 d_LOp)).2.1)), (x124 ++ ([(s_l5Rows (s_l5PutRows x119 ((s_l5Alone x119 (p_1.getD k38 d_LOp)).2.1)))] : List Bool)))
      else
        .cont (x119, (x124 ++ ([(s_l5Rows (s_l5PutRows x119 ((s_l5Alone x119 (p_1.getD k38 d_LOp)).2.1)))] : List Bool)))
    else
      .cont (x119, (x124 ++ ([false] : List Bool)))
def s_RunInTurn (p_0 : List DWrite) (p_1 : List (List DOp)) : (List DWrite) × (List Bool) × Bool :=
  bif s_l5Rows p_0 then
    bif decide (20 < (p_1.length : Int)) then
      (([] : List DWrite), ([] : List Bool), false)
    else
      loopE (loopM (B_s_RunInTurn_0 p_0 p_1) (p_1.length - 0) 0 ()) (fun r => r) (fun _ =>
        loopE (loopM (B_s_RunInTurn_1 p_0 p_1) (p_1.length - 0) 0 ((([] : List DWrite) ++ p_0), ([] : List Bool))) (fun r => r) (fun (x119, x124) =>
          (x119, x124, true)))
  else
    (([] : List DWrite), ([] : List Bool), false)
def B_g_slices_IndexFunc_Write_0 (p_s : List DWrite) (p_f : DWrite → Bool) (k7 : Nat) : Unit → Out Int Unit
  | () => bif p_f (p_s.getD k7 d_Write) then
      .ret (k7 : Int)
    else
      .cont ()
def g_slices_IndexFunc_Write (p_s : List DWrite) (p_f : DWrite → Bool) : Int :=
  loopE (loopM (B_g_slices_IndexFunc_Write_0 p_s p_f) (p_s.length - 0) 0 ()) (fun r => r) (fun _ =>
    -1)
def g_slices_ContainsFunc_Write (p_s : List DWrite) (p_f : DWrite → Bool) : Bool :=
  decide (0 ≤ (g_slices_IndexFunc_Write p_s p_f))
def i_GoodKey (p_s : Str) : Bool :=
  bif i_within (p_s.length : Int) 1 12 then
    (i_hasBytes p_s ([46, 47] : Str))
  else
    false
def B_i_areRising_0 (p_keys : List Str) (k3 : Nat) : Unit → Out Bool Unit
  | () => bif i_GoodKey (p_keys.getD k3 d_Str) then
      bif decide (0 < (k3 : Int)) then
        bif sLe (p_keys.getD k3 d_Str) (p_keys.getD ((IntKind.wrap .i64 ((k3 : Int) - 1)).toNat) d_Str) then
          .ret false
        else
          .cont ()
      else
        .cont ()
    else
      .ret false
def i_areRising (p_keys : List Str) : Bool :=
  loopE (loopM (B_i_areRising_0 p_keys) (p_keys.length - 0) 0 ()) (fun r => r) (fun _ =>
    true)
def B_i_writeKeys_0 (p_l : List DWrite) (k10 : Nat) : (List Str) → Out (List Str) (List Str)
  | (x60) => .cont ((x60 ++ ([(p_l.getD k10 d_Write).Key] : List Str)))
def i_writeKeys (p_l : List DWrite) : List Str :=
  loopE (loopM (B_i_writeKeys_0 p_l) (p_l.length - 0) 0 (([] : List Str))) (fun r => r) (fun x60 =>
    x60)
def i_GoodVal (p_s : Str) : Bool :=
  bif decide ((p_s.length : Int) ≤ 24) then
    (i_hasBytes p_s ([46, 45, 44, 95] : Str))
  else
    false
def i_isStored (p_val : Str) (p_gone : Bool) : Bool :=
  bif i_GoodVal p_val then
    bif p_gone then
      !(!(p_val == ([] : Str)))
    else
      !false
  else
    false
def i_GoodWrites_c1 (p_w : DWrite) : Bool :=
  !(i_isStored p_w.Val p_w.Gone)
def i_GoodWrites (p_l : List DWrite) : Bool :=
  bif decide ((p_l.length : Int) ≤ 24) then
    bif i_areRising (i_writeKeys p_l) then
      !(g_slices_ContainsFunc_Write p_l (fun y0 => i_GoodWrites_c1 y0))
    else
      false
  else
    false
def i_isRows_c1 (p_w : DWrite) : Bool :=
  p_w.Gone
def i_isRows (p_rows : List DWrite) : Bool :=
  bif i_GoodWrites p_rows then
    !(g_slices_ContainsFunc_Write p_rows (fun y0 => i_isRows_c1 y0))
  else
    false
def i_isIdxStore (p_t : DTable) (pn : Str) (ps : List DWrite) : Bool :=
  bif i_hasIdx p_t pn then
    (i_isRows ps)
  else
    false
def g_slices_DeleteFunc_string (p_s : List Str) (p_f : Str → Bool) : List Str := p_s.filter fun y => !p_f y
def g_slices_Clone_string (p_s : List Str) : List Str :=
  (([] : List Str) ++ p_s)
def i_without_c1 (p_s : Str) (p_cap0 : List Str) : Bool :=
  (g_slices_Contains_string p_cap0 p_s)
def i_without (p_l : List Str) (p_other : List Str) : List Str :=
  (g_slices_DeleteFunc_string (g_slices_Clone_string p_l) (fun y0 => i_without_c1 y0 p_other))
def g_strings_Split (p_s : Str) (p_sep : Str) : List Str :=
  sp (p_sep.headD 0) p_s
def i_Table_readRow (p_t : DTable) (p_w : DWrite) : DRow × Bool :=
  bif (g_strings_CutPrefix p_w.Key (p_t.Name ++ ([47] : Str))).2 then
    bif i_Table_isRow p_t (⟨(([(g_strings_CutPrefix p_w.Key (p_t.Name ++ ([47] : Str))).1] : List Str) ++ (g_strings_Split p_w.Val ([44] : Str)))⟩ : DRow) then
      bif (p_w.Key == ((i_Table_rowWrite p_t (⟨(([(g_strings_CutPrefix p_w.Key (p_t.Name ++ ([47] : Str))).1] : List Str) ++ (g_strings_Split p_w.Val ([44] : Str)))⟩ : DRow)).Key)) && ((p_w.Val == ((i_Table_rowWrite p_t (⟨(([(g_strings_CutPrefix p_w.Key (p_t.Name ++ ([47] : Str))).1] : List Str) ++ (g_strings_Split p_w.Val ([44] : Str)))⟩ : DRow)).Val)) && (p_w.Gone == ((i_Table_rowWrite p_t (⟨(([(g_strings_CutPrefix p_w.Key (p_t.Name ++ ([47] : Str))).1] : List Str) ++ (g_strings_Split p_w.Val ([44] : Str)))⟩ : DRow)).Gone))) then
        ((⟨(([(g_strings_CutPrefix p_w.Key (p_t.Name ++ ([47] : Str))).1] : List Str) ++ (g_strings_Split p_w.Val ([44] : Str)))⟩ : DRow), true)
      else
        ((⟨[]⟩ : DRow), false)
    else
      ((⟨[]⟩ : DRow), false)
  else
    ((⟨[]⟩ : DRow), false)
def B_i_Table_rowsIn_0 (p_t : DTable) (ps : List DWrite) (k19 : Nat) : (List DRow) → Out (List DRow) (List DRow)
  | (x101) => bif (i_Table_readRow p_t (ps.getD k19 d_Write)).2 then
      .cont ((x101 ++ ([(i_Table_readRow p_t (ps.getD k19 d_Write)).1] : List DRow)))
    else
      .cont (x101)
def i_Table_rowsIn (p_t : DTable) (ps : List DWrite) : List DRow :=
  loopE (loopM (B_i_Table_rowsIn_0 p_t ps) (ps.length - 0) 0 (([] : List DRow))) (fun r => r) (fun x101 =>
    x101)
def B_i_Table_keysIn_0 (p_t : DTable) (pn : Str) (ps : List DWrite) (k26 : Nat) : (List Str) → Out (List Str) (List Str)
  | (x88) => .cont ((x88 ++ ([(i_Table_idxKey p_t pn ((i_Table_rowsIn p_t ps).getD k26 d_Row))] : List Str)))
def i_Table_keysIn (p_t : DTable) (pn : Str) (ps : List DWrite) : List Str :=
  loopE (loopM (B_i_Table_keysIn_0 p_t pn ps) ((i_Table_rowsIn p_t ps).length - 0) 0 (([] : List Str))) (fun r => r) (fun x88 =>
    x88)
def B_i_Table_entriesIn_0 (p_t : DTable) (pn : Str) (ps : List DWrite) (k20 : Nat) : (List Str) → Out (List Str) (List Str)
  | (x82) => bif (i_Table_readIdxKey p_t pn ((ps.getD k20 d_Write).Key)).2.2 then
      .cont ((x82 ++ ([(ps.getD k20 d_Write).Key] : List Str)))
    else
      .cont (x82)
def i_Table_entriesIn (p_t : DTable) (pn : Str) (ps : List DWrite) : List Str :=
  loopE (loopM (B_i_Table_entriesIn_0 p_t pn ps) (ps.length - 0) 0 (([] : List Str))) (fun r => r) (fun x82 =>
    x82)
def i_Table_lacksIn (p_t : DTable) (pn : Str) (ps : List DWrite) : List Str :=
  (i_without (i_Table_keysIn p_t pn ps) (i_Table_entriesIn p_t pn ps))
def i_LacksIn (p_t : DTable) (pn : Str) (ps : List DWrite) : (List Str) × Bool :=
  bif i_isIdxStore p_t pn ps then
    ((i_Table_lacksIn p_t pn ps), true)
  else
    (([] : List Str), false)
def l_FnFillOps (p_0 : List Int) (p_1 : List Int) : Bool :=
  bif decide (1048576 < (IntKind.wrap .i64 ((p_0.length : Int) + (p_1.length : Int)))) then
    true
  else
    bif ((i_FillOps ((s_DrawFillOps p_0).1) ((s_DrawFillOps p_0).2.1) ((s_DrawFillOps p_0).2.2)).2) == ((s_FillOps ((s_DrawFillOps p_0).1) ((s_DrawFillOps p_0).2.1) ((s_DrawFillOps p_0).2.2)).2) then
      bif l_qSameOps ((i_FillOps ((s_DrawFillOps p_0).1) ((s_DrawFillOps p_0).2.1) ((s_DrawFillOps p_0).2.2)).1) ((s_FillOps ((s_DrawFillOps p_0).1) ((s_DrawFillOps p_0).2.1) ((s_DrawFillOps p_0).2.2)).1) then
        bif ((i_ClearOps ((s_DrawClearOps p_1).1) ((s_DrawClearOps p_1).2.1) ((s_DrawClearOps p_1).2.2)).2) == ((s_ClearOps ((s_DrawClearOps p_1).1) ((s_DrawClearOps p_1).2.1) ((s_DrawClearOps p_1).2.2)).2) then
          bif l_qSameOps ((i_ClearOps ((s_DrawClearOps p_1).1) ((s_DrawClearOps p_1).2.1) ((s_DrawClearOps p_1).2.2)).1) ((s_ClearOps ((s_DrawClearOps p_1).1) ((s_DrawClearOps p_1).2.1) ((s_DrawClearOps p_1).2.2)).1) then
            bif (i_FillOps ((s_DrawFillOps p_0).1) ((s_DrawFillOps p_0).2.1) ((s_DrawFillOps p_0).2.2)).2 then
              bif (s_RowWrite ((s_DrawFillOps p_0).1) ((s_DrawFillOps p_0).2.2)).2 then
                bif (s_RunInTurn ([(s_RowWrite ((s_DrawFillOps p_0).1) ((s_DrawFillOps p_0).2.2)).1] : List DWrite) ([(i_FillOps ((s_DrawFillOps p_0).1) ((s_DrawFillOps p_0).2.1) ((s_DrawFillOps p_0).2.2)).1] : List (List DOp))).2.2 then
                  bif decide ((((s_RunInTurn ([(s_RowWrite ((s_DrawFillOps p_0).1) ((s_DrawFillOps p_0).2.2)).1] : List DWrite) ([(i_FillOps ((s_DrawFillOps p_0).1) ((s_DrawFillOps p_0).2.1) ((s_DrawFillOps p_0).2.2)).1] : List (List DOp))).2.1).length : Int) = 1) then
                    bif ((s_RunInTurn ([(s_RowWrite ((s_DrawFillOps p_0).1) ((s_DrawFillOps p_0).2.2)).1] : List DWrite) ([(i_FillOps ((s_DrawFillOps p_0).1) ((s_DrawFillOps p_0).2.1) ((s_DrawFillOps p_0).2.2)).1] : List (List DOp))).2.1).getD 0 d_Bool then
                      bif (i_LacksIn ((s_DrawFillOps p_0).1) ((s_DrawFillOps p_0).2.1) ((s_RunInTurn ([(s_RowWrite ((s_DrawFillOps p_0).1) ((s_DrawFillOps p_0).2.2)).1] : List DWrite) ([(i_FillOps ((s_DrawFillOps p_0).1) ((s_DrawFillOps p_0).2.1) ((s_DrawFillOps p_0).2.2)).1] : List (List DOp))).1)).2 then
                        bif decide ((((i_LacksIn ((s_DrawFillOps p_0).1) ((s_DrawFillOps p_0).2.1) ((s_RunInTurn ([(s_RowWrite ((s_DrawFillOps p_0).1) ((s_DrawFillOps p_0).2.2)).1] : List DWrite) ([(i_FillOps ((s_DrawFillOps p_0).1) ((s_DrawFillOps p_0).2.1) ((s_DrawFillOps p_0).2.2)).1] : List (List DOp))).1)).1).length : Int) = 0) then
                          bif (s_RunInTurn ([] : List DWrite) ([(i_FillOps ((s_DrawFillOps p_0).1) ((s_DrawFillOps p_0).2.1) ((s_DrawFillOps p_0).2.2)).1] : List (List DOp))).2.2 then
                            bif decide ((((s_RunInTurn ([] : List DWrite) ([(i_FillOps ((s_DrawFillOps p_0).1) ((s_DrawFillOps p_0).2.1) ((s_DrawFillOps p_0).2.2)).1] : List (List DOp))).2.1).length : Int) = 1) then
                              bif ((s_RunInTurn ([] : List DWrite) ([(i_FillOps ((s_DrawFillOps p_0).1) ((s_DrawFillOps p_0).2.1) ((s_DrawFillOps p_0).2.2)).1] : List (List DOp))).2.1).getD 0 d_Bool then
                                false
                              else
                                bif (i_ClearOps ((s_DrawClearOps p_1).1) ((s_DrawClearOps p_1).2.1) ((s_DrawClearOps p_1).2.2)).2 then
                                  bif (s_RunInTurn ([(⟨(s_DrawClearOps p_1).2.2, ([] : Str), false⟩ : DWrite)] : List DWrite) ([(i_ClearOps ((s_DrawClearOps p_1).1) ((s_DrawClearOps p_1).2.1) ((s_DrawClearOps p_1).2.2)).1] : List (List DOp))).2.2 then
                                    bif decide ((((s_RunInTurn ([(⟨(s_DrawClearOps p_1).2.2, ([] : Str), false⟩ : DWrite)] : List DWrite) ([(i_ClearOps ((s_DrawClearOps p_1).1) ((s_DrawClearOps p_1).2.1) ((s_DrawClearOps p_1).2.2)).1] : List (List DOp))).1).length : Int) = 0) then
                                      bif decide ((((s_RunInTurn ([(⟨(s_DrawClearOps p_1).2.2, ([] : Str), false⟩ : DWrite)] : List DWrite) ([(i_ClearOps ((s_DrawClearOps p_1).1) ((s_DrawClearOps p_1).2.1) ((s_DrawClearOps p_1).2.2)).1] : List (List DOp))).2.1).length : Int) = 1) then
                                        (((s_RunInTurn ([(⟨(s_DrawClearOps p_1).2.2, ([] : Str), false⟩ : DWrite)] : List DWrite) ([(i_ClearOps ((s_DrawClearOps p_1).1) ((s_DrawClearOps p_1).2.1) ((s_DrawClearOps p_1).2.2)).1] : List (List DOp))).2.1).getD 0 d_Bool)
                                      else
                                        false
                                    else
                                      false
                                  else
                                    false
                                else
                                  true
                            else
                              false
                          else
                            false
                        else
                          false
                      else
                        false
                    else
                      false
                  else
                    false
                else
                  false
              else
                false
            else
              bif (i_ClearOps ((s_DrawClearOps p_1).1) ((s_DrawClearOps p_1).2.1) ((s_DrawClearOps p_1).2.2)).2 then
                bif (s_RunInTurn ([(⟨(s_DrawClearOps p_1).2.2, ([] : Str), false⟩ : DWrite)] : List DWrite) ([(i_ClearOps ((s_DrawClearOps p_1).1) ((s_DrawClearOps p_1).2.1) ((s_DrawClearOps p_1).2.2)).1] : List (List DOp))).2.2 then
                  bif decide ((((s_RunInTurn ([(⟨(s_DrawClearOps p_1).2.2, ([] : Str), false⟩ : DWrite)] : List DWrite) ([(i_ClearOps ((s_DrawClearOps p_1).1) ((s_DrawClearOps p_1).2.1) ((s_DrawClearOps p_1).2.2)).1] : List (List DOp))).1).length : Int) = 0) then
                    bif decide ((((s_RunInTurn ([(⟨(s_DrawClearOps p_1).2.2, ([] : Str), false⟩ : DWrite)] : List DWrite) ([(i_ClearOps ((s_DrawClearOps p_1).1) ((s_DrawClearOps p_1).2.1) ((s_DrawClearOps p_1).2.2)).1] : List (List DOp))).2.1).length : Int) = 1) then
                      (((s_RunInTurn ([(⟨(s_DrawClearOps p_1).2.2, ([] : Str), false⟩ : DWrite)] : List DWrite) ([(i_ClearOps ((s_DrawClearOps p_1).1) ((s_DrawClearOps p_1).2.1) ((s_DrawClearOps p_1).2.2)).1] : List (List DOp))).2.1).getD 0 d_Bool)
                    else
                      false
                  else
                    false
                else
                  false
              else
                true
          else
            false
        else
          false
      else
        false
    else
      false
def s_l25Read (p_t : DTable) (p_w : DWrite) : DRow × Bool :=
  bif decide ((p_w.Key.length : Int) < 3) then
    ((⟨[]⟩ : DRow), false)
  else
    bif s_l25Good p_t (⟨(([(p_w.Key.drop 2)] : List Str) ++ (s_l1Split p_w.Val 44))⟩ : DRow) then
      ((⟨(([(p_w.Key.drop 2)] : List Str) ++ (s_l1Split p_w.Val 44))⟩ : DRow), ((((s_l25Write p_t (⟨(([(p_w.Key.drop 2)] : List Str) ++ (s_l1Split p_w.Val 44))⟩ : DRow)).Key) == p_w.Key) && ((((s_l25Write p_t (⟨(([(p_w.Key.drop 2)] : List Str) ++ (s_l1Split p_w.Val 44))⟩ : DRow)).Val) == p_w.Val) && (((s_l25Write p_t (⟨(([(p_w.Key.drop 2)] : List Str) ++ (s_l1Split p_w.Val 44))⟩ : DRow)).Gone) == p_w.Gone))))
    else
      ((⟨(([(p_w.Key.drop 2)] : List Str) ++ (s_l1Split p_w.Val 44))⟩ : DRow), false)
def B_s_l25Rows_0 (p_t : DTable) (ps : List DWrite) (k12 : Nat) : (List DRow) → Out (List DRow) (List DRow)
  | (x94) => bif (s_l25Read p_t (ps.getD k12 d_Write)).2 then
      .cont ((x94 ++ ([(s_l25Read p_t (ps.getD k12 d_Write)).1] : List DRow)))
    else
      .cont (x94)
def s_l25Rows (p_t : DTable) (ps : List DWrite) : List DRow :=
  loopE (loopM (B_s_l25Rows_0 p_t ps) (ps.length - 0) 0 (([] : List DRow))) (fun r => r) (fun x94 =>
    x94)
def i_RowsIn (p_t : DTable) (ps : List DWrite) : (List DRow) × Bool :=
  bif i_GoodTable p_t then
    bif i_isRows ps then
      ((i_Table_rowsIn p_t ps), true)
    else
      (([] : List DRow), false)
  else
    (([] : List DRow), false)
def i_Table_orphansIn (p_t : DTable) (pn : Str) (ps : List DWrite) : List Str :=
  (i_without (i_Table_entriesIn p_t pn ps) (i_Table_keysIn p_t pn ps))
def i_OrphansIn (p_t : DTable) (pn : Str) (ps : List DWrite) : (List Str) × Bool :=
  bif i_isIdxStore p_t pn ps then
    ((i_Table_orphansIn p_t pn ps), true)
  else
    (([] : List Str), false)
def i_IdxKey (p_t : DTable) (pn : Str) (p_r : DRow) : Str × Bool :=
  bif i_GoodRow p_t p_r then
    bif i_hasIdx p_t pn then
      ((i_Table_idxKey p_t pn p_r), true)
    else
      (([] : Str), false)
  else
    (([] : Str), false)
def i_RowWrite (p_t : DTable) (p_r : DRow) : DWrite × Bool :=
  bif i_GoodRow p_t p_r then
    ((i_Table_rowWrite p_t p_r), true)
  else
    ((⟨([] : Str), ([] : Str), false⟩ : DWrite), false)
def i_EntriesIn (p_t : DTable) (pn : Str) (ps : List DWrite) : (List Str) × Bool :=
  bif i_isIdxStore p_t pn ps then
    ((i_Table_entriesIn p_t pn ps), true)
  else
    (([] : List Str), false)
def i_ReadRow (p_t : DTable) (p_w : DWrite) : DRow × Bool :=
  bif i_GoodTable p_t then
    ((i_Table_readRow p_t p_w).1, (i_Table_readRow p_t p_w).2)
  else
    ((⟨[]⟩ : DRow), false)
def B_s_l25Less_0 (p_l : List Str) (p_others : List Str) (k5 : Nat) : (List Str) → Out (List Str) (List Str)
  | (x26) => bif decide ((s_l24At p_others (p_l.getD k5 d_Str)) < 0) then
      .cont ((x26 ++ ([(p_l.getD k5 d_Str)] : List Str)))
    else
      .cont (x26)
def s_l25Less (p_l : List Str) (p_others : List Str) : List Str :=
  loopE (loopM (B_s_l25Less_0 p_l p_others) (p_l.length - 0) 0 (([] : List Str))) (fun r => r) (fun x26 =>
    x26)
end Go.Proofs.YtfcofekfcmidoaaGreatDoor
