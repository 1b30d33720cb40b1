/- Fn Tables: the plain forms of the values, and plain models of the functions. -/
import Derived.Test.YtgfkmgjpannelaaGreatDoorE25
set_option linter.unusedVariables false
set_option linter.unusedSimpArgs false
namespace Go.Proofs.YtgfkmgjpannelaaGreatDoor
open Go.RowKit Go.X
structure DIdx where
  Name : Str
  Col : Int
  Stage : Int
def d_Idx : DIdx := ⟨[], 0, 0⟩
def wf_Idx (x : DIdx) : Prop := wfS x.Name ∧ wfI x.Col ∧ wfI x.Stage
def ok_Idx (x : DIdx) : Prop := okS x.Name
theorem ok_d_Idx : ok_Idx d_Idx := ok_d_Str
def e_Idx (x : DIdx) : List Value := [.string (bs x.Name), .int .i64 x.Col, .int .i64 x.Stage]
theorem gI : Gd (RF e_Idx) := RF.good fun _ => rfl
structure DTable where
  Name : Str
  Cols : List Str
  Idxs : List DIdx
def d_Table : DTable := ⟨[], [], []⟩
def wf_Table (x : DTable) : Prop := wfS x.Name ∧ (wfL wfS) x.Cols ∧ (wfL wf_Idx) x.Idxs
def ok_Table (x : DTable) : Prop := okS x.Name ∧ (okL okS) x.Cols ∧ (okL ok_Idx) x.Idxs
theorem ok_d_Table : ok_Table d_Table := ⟨ok_d_Str, okL.nil _, okL.nil _⟩
def R_Table : Rel DTable := fun w S cs x => ∃ A1 c1 A2 c2, cs = [.string (bs x.Name), .slice A1 x.Cols.length c1, .slice A2 x.Idxs.length c2] ∧ RdS w S (RF e_Str) 1 A1 x.Cols.length c1 x.Cols ∧ RdS w S (RF e_Idx) 3 A2 x.Idxs.length c2 x.Idxs
def RO_Table : RelO DTable := fun w l h cs x => ∃ A1 c1 lo1 hi1 A2 c2 lo2 hi2, cs = [.string (bs x.Name), .slice A1 x.Cols.length c1, .slice A2 x.Idxs.length c2] ∧ OwnL w lo1 hi1 9 1 (RF e_Str) A1 x.Cols.length c1 x.Cols ∧ OwnL w lo2 hi2 35 3 (RF e_Idx) A2 x.Idxs.length c2 x.Idxs ∧ (l ≤ lo1 ∧ lo1 ≤ hi1 ∧ hi1 ≤ h) ∧ (l ≤ lo2 ∧ lo2 ≤ hi2 ∧ hi2 ≤ h) ∧ (hi1 ≤ lo2 ∨ hi2 ≤ lo1)
theorem good_Table : Gd R_Table := ⟨fun ⟨A1, c1, A2, c2, he, h0, h1⟩ hk => ⟨A1, c1, A2, c2, he, RdS.keep gS h0 hk, RdS.keep gI h1 hk⟩, fun ⟨A1, c1, A2, c2, he, h0, h1⟩ hw => ⟨A1, c1, A2, c2, he, RdS.wide gS h0 hw, RdS.wide gI h1 hw⟩, fun ⟨A1, c1, A2, c2, he, h0, h1⟩ => by rw [he]; rfl⟩
theorem goodO_Table : GdO RO_Table R_Table := ⟨fun ⟨A1, c1, lo1, hi1, A2, c2, lo2, hi2, he, h1, h2, r0, r1, r2⟩ hk => ⟨A1, c1, lo1, hi1, A2, c2, lo2, hi2, he, OwnL.keep gS h1 (fun b b1 b2 b3 => hk b oM oM b3), OwnL.keep gI h2 (fun b b1 b2 b3 => hk b oM oM b3), r0, r1, r2⟩, fun ⟨A1, c1, lo1, hi1, A2, c2, lo2, hi2, he, h1, h2, r0, r1, r2⟩ => by rw [he]; rfl, fun ⟨A1, c1, lo1, hi1, A2, c2, lo2, hi2, he, h1, h2, r0, r1, r2⟩ => ⟨A1, c1, A2, c2, he, RdS.wide gS (OwnL.rdI gS h1) (fun b hb _ => ⟨by have := hb.1; omega, by have := hb.2; omega⟩), RdS.wide gI (OwnL.rdI gI h2) (fun b hb _ => ⟨by have := hb.1; omega, by have := hb.2; omega⟩)⟩⟩
theorem mkO_Table {w : World} {l h : Nat} {z0 : Str} {lo1 hi1 n1 c1 : Nat} {A1 : Option Addr} {y1 : List Str} {lo2 hi2 n2 c2 : Nat} {A2 : Option Addr} {y2 : List DIdx} (h1 : OwnL w lo1 hi1 9 1 (RF e_Str) A1 n1 c1 y1) (h2 : OwnL w lo2 hi2 35 3 (RF e_Idx) A2 n2 c2 y2) (r0 : (l ≤ lo1 ∧ lo1 ≤ hi1 ∧ hi1 ≤ h)) (r1 : (l ≤ lo2 ∧ lo2 ≤ hi2 ∧ hi2 ≤ h)) (r2 : (hi1 ≤ lo2 ∨ hi2 ≤ lo1)) : RO_Table w l h [.string (bs z0), .slice A1 n1 c1, .slice A2 n2 c2] ⟨z0, y1, y2⟩ := by
  obtain rfl := h1.1; obtain rfl := h2.1
  exact ⟨A1, c1, lo1, hi1, A2, c2, lo2, hi2, rfl, h1, h2, r0, r1, r2⟩
structure DL1Cur where
  code : List Int
  at_ : Int
  seed : Int
def d_L1Cur : DL1Cur := ⟨[], 0, 0⟩
def wf_L1Cur (x : DL1Cur) : Prop := (wfL wfI) x.code ∧ wfI x.at_ ∧ wfI x.seed
def ok_L1Cur (x : DL1Cur) : Prop := (okL okT) x.code
theorem ok_d_L1Cur : ok_L1Cur d_L1Cur := okL.nil _
def R_L1Cur : Rel DL1Cur := fun w S cs x => ∃ A1 c1, cs = [.slice A1 x.code.length c1, .int .i64 x.at_, .int .u64 x.seed] ∧ RdS w S (RF e_U8) 1 A1 x.code.length c1 x.code
def RO_L1Cur : RelO DL1Cur := fun w l h cs x => ∃ A1 c1 lo1 hi1, cs = [.slice A1 x.code.length c1, .int .i64 x.at_, .int .u64 x.seed] ∧ OwnL w lo1 hi1 5 1 (RF e_U8) A1 x.code.length c1 x.code ∧ (l ≤ lo1 ∧ lo1 ≤ hi1 ∧ hi1 ≤ h)
theorem good_L1Cur : Gd R_L1Cur := ⟨fun ⟨A1, c1, he, h0⟩ hk => ⟨A1, c1, he, RdS.keep gU h0 hk⟩, fun ⟨A1, c1, he, h0⟩ hw => ⟨A1, c1, he, RdS.wide gU h0 hw⟩, fun ⟨A1, c1, he, h0⟩ => by rw [he]; rfl⟩
theorem goodO_L1Cur : GdO RO_L1Cur R_L1Cur := ⟨fun ⟨A1, c1, lo1, hi1, he, h1, r0⟩ hk => ⟨A1, c1, lo1, hi1, he, OwnL.keep gU h1 (fun b b1 b2 b3 => hk b oM oM b3), r0⟩, fun ⟨A1, c1, lo1, hi1, he, h1, r0⟩ => by rw [he]; rfl, fun ⟨A1, c1, lo1, hi1, he, h1, r0⟩ => ⟨A1, c1, he, RdS.wide gU (OwnL.rdI gU h1) (fun b hb _ => ⟨by have := hb.1; omega, by have := hb.2; omega⟩)⟩⟩
theorem mkO_L1Cur {w : World} {l h : Nat} {lo1 hi1 n1 c1 : Nat} {A1 : Option Addr} {y1 : List Int} {z1 : Int} {z2 : Int} (h1 : OwnL w lo1 hi1 5 1 (RF e_U8) A1 n1 c1 y1) (r0 : (l ≤ lo1 ∧ lo1 ≤ hi1 ∧ hi1 ≤ h)) : RO_L1Cur w l h [.slice A1 n1 c1, .int .i64 z1, .int .u64 z2] ⟨y1, z1, z2⟩ := by
  obtain rfl := h1.1
  exact ⟨A1, c1, lo1, hi1, rfl, h1, r0⟩
structure DBoundsError where
  x : Int
  y : Int
  signed : Bool
  code : Int
def d_BoundsError : DBoundsError := ⟨0, 0, false, 0⟩
def wf_BoundsError (x : DBoundsError) : Prop := wfI x.x ∧ wfI x.y ∧ wfI x.code
def e_BoundsError (x : DBoundsError) : List Value := [.int .i64 x.x, .int .i64 x.y, .bool x.signed, .int .u8 x.code]
theorem good_BoundsError : Gd (RF e_BoundsError) := RF.good fun _ => rfl
structure DErrorAddressString where
  msg : Str
  addr : Int
def d_ErrorAddressString : DErrorAddressString := ⟨[], 0⟩
def wf_ErrorAddressString (x : DErrorAddressString) : Prop := wfS x.msg ∧ wfI x.addr
def ok_ErrorAddressString (x : DErrorAddressString) : Prop := okS x.msg
theorem ok_d_ErrorAddressString : ok_ErrorAddressString d_ErrorAddressString := ok_d_Str
def e_ErrorAddressString (x : DErrorAddressString) : List Value := [.string (bs x.msg), .int .u64 x.addr]
theorem good_ErrorAddressString : Gd (RF e_ErrorAddressString) := RF.good fun _ => rfl
structure DAcceptRange where
  lo : Int
  hi : Int
def d_AcceptRange : DAcceptRange := ⟨0, 0⟩
def wf_AcceptRange (x : DAcceptRange) : Prop := wfI x.lo ∧ wfI x.hi
def e_AcceptRange (x : DAcceptRange) : List Value := [.int .u8 x.lo, .int .u8 x.hi]
theorem good_AcceptRange : Gd (RF e_AcceptRange) := RF.good fun _ => rfl
structure DErrorString where
  s : Str
def d_ErrorString : DErrorString := ⟨[]⟩
def wf_ErrorString (x : DErrorString) : Prop := wfS x.s
def ok_ErrorString (x : DErrorString) : Prop := okS x.s
theorem ok_d_ErrorString : ok_ErrorString d_ErrorString := ok_d_Str
def e_ErrorString (x : DErrorString) : List Value := [.string (bs x.s)]
theorem good_ErrorString : Gd (RF e_ErrorString) := RF.good fun _ => rfl
def u_next (pC : List Int) (p_c : Int × Int) : Int × (Int × Int) :=
  bif decide (p_c.1 < (pC.length : Int)) then
    bif decide ((IntKind.wrap .i64 (p_c.1 + 1)) ≤ (pC.length : Int)) then
      (IntKind.wrap .i64 (pC.getD ((p_c.1).toNat) d_U8), (IntKind.wrap .i64 (p_c.1 + 1), IntKind.wrap .u64 ((IntKind.wrap .u64 ((IntKind.wrap .u64 (p_c.2 * 6364136223846793005)) + (IntKind.wrap .u64 (IntKind.wrap .i64 (pC.getD ((p_c.1).toNat) d_U8))))) + 1442695040888963407)))
    else
      (IntKind.wrap .i64 (iand .u64 (Int.fdiv (IntKind.wrap .u64 ((IntKind.wrap .u64 ((IntKind.wrap .u64 (p_c.2 * 6364136223846793005)) + (IntKind.wrap .u64 (IntKind.wrap .i64 (pC.getD ((p_c.1).toNat) d_U8))))) + 1442695040888963407)) 1099511627776) 255), (IntKind.wrap .i64 (p_c.1 + 1), IntKind.wrap .u64 ((IntKind.wrap .u64 ((IntKind.wrap .u64 (p_c.2 * 6364136223846793005)) + (IntKind.wrap .u64 (IntKind.wrap .i64 (pC.getD ((p_c.1).toNat) d_U8))))) + 1442695040888963407)))
  else
    bif decide ((IntKind.wrap .i64 (p_c.1 + 1)) ≤ (pC.length : Int)) then
      (0, (IntKind.wrap .i64 (p_c.1 + 1), IntKind.wrap .u64 ((IntKind.wrap .u64 ((IntKind.wrap .u64 (p_c.2 * 6364136223846793005)) + (IntKind.wrap .u64 0))) + 1442695040888963407)))
    else
      (IntKind.wrap .i64 (iand .u64 (Int.fdiv (IntKind.wrap .u64 ((IntKind.wrap .u64 ((IntKind.wrap .u64 (p_c.2 * 6364136223846793005)) + (IntKind.wrap .u64 0))) + 1442695040888963407)) 1099511627776) 255), (IntKind.wrap .i64 (p_c.1 + 1), IntKind.wrap .u64 ((IntKind.wrap .u64 ((IntKind.wrap .u64 (p_c.2 * 6364136223846793005)) + (IntKind.wrap .u64 0))) + 1442695040888963407)))
def u_pick (pC : List Int) (p_c : Int × Int) (p_n : Int) : Int × (Int × Int) :=
  bif decide (p_n ≤ 1) then
    (0, p_c)
  else
    bif decide (200 < p_n) then
      (Int.tmod (IntKind.wrap .i64 ((IntKind.wrap .i64 (((u_next pC p_c).1) * 256)) + ((u_next pC ((u_next pC p_c).2)).1))) p_n, ((u_next pC ((u_next pC p_c).2)).2))
    else
      (Int.tmod ((u_next pC p_c).1) p_n, ((u_next pC p_c).2))
def u_one (pC : List Int) (p_c : Int × Int) (p_n : Int) : Bool × (Int × Int) :=
  (decide (((u_pick pC p_c p_n).1) = 0), ((u_pick pC p_c p_n).2))
def u_of (pC : List Int) (p_c : Int × Int) (p_list : List Str) : Str × (Int × Int) :=
  ((p_list.getD (((u_pick pC p_c (p_list.length : Int)).1).toNat) d_Str), ((u_pick pC p_c (p_list.length : Int)).2))
def B_u_table_0 (pC : List Int) (p_c : Int × Int) (k85 : Nat) : Int × Int × (List DIdx) → Out (DTable × (Int × Int)) (Int × Int × (List DIdx))
  | (x151, x152, x153) => bif (u_one pC (x151, x152) 3).1 then
      bif (([[105], [106], [109]] : List Str).getD k85 d_Str) == ([105] : Str) then
        bif (u_one pC ((u_one pC (x151, x152) 3).2) 8).1 then
          .cont (((u_one pC ((u_one pC (x151, x152) 3).2) 8).2).1, ((u_one pC ((u_one pC (x151, x152) 3).2) 8).2).2, x153)
        else
          .cont (((u_pick pC ((u_pick pC ((u_one pC ((u_one pC (x151, x152) 3).2) 8).2) (IntKind.wrap .i64 (((([] : List Str) ++ (([[107], [97], [98], [99, 99]] : List Str).take ((IntKind.wrap .i64 (2 + ((u_pick pC ((u_of pC p_c ([[116], [117]] : List Str)).2) 3).1))).toNat))).length : Int) - 1))).2) 4).2).1, ((u_pick pC ((u_pick pC ((u_one pC ((u_one pC (x151, x152) 3).2) 8).2) (IntKind.wrap .i64 (((([] : List Str) ++ (([[107], [97], [98], [99, 99]] : List Str).take ((IntKind.wrap .i64 (2 + ((u_pick pC ((u_of pC p_c ([[116], [117]] : List Str)).2) 3).1))).toNat))).length : Int) - 1))).2) 4).2).2, (x153 ++ ([(⟨(([[105], [106], [109]] : List Str).getD k85 d_Str), IntKind.wrap .i64 (1 + ((u_pick pC ((u_one pC ((u_one pC (x151, x152) 3).2) 8).2) (IntKind.wrap .i64 (((([] : List Str) ++ (([[107], [97], [98], [99, 99]] : List Str).take ((IntKind.wrap .i64 (2 + ((u_pick pC ((u_of pC p_c ([[116], [117]] : List Str)).2) 3).1))).toNat))).length : Int) - 1))).1)), (u_pick pC ((u_pick pC ((u_one pC ((u_one pC (x151, x152) 3).2) 8).2) (IntKind.wrap .i64 (((([] : List Str) ++ (([[107], [97], [98], [99, 99]] : List Str).take ((IntKind.wrap .i64 (2 + ((u_pick pC ((u_of pC p_c ([[116], [117]] : List Str)).2) 3).1))).toNat))).length : Int) - 1))).2) 4).1⟩ : DIdx)] : List DIdx)))
      else
        .cont (((u_one pC (x151, x152) 3).2).1, ((u_one pC (x151, x152) 3).2).2, x153)
    else
      .cont (((u_pick pC ((u_pick pC ((u_one pC (x151, x152) 3).2) (IntKind.wrap .i64 (((([] : List Str) ++ (([[107], [97], [98], [99, 99]] : List Str).take ((IntKind.wrap .i64 (2 + ((u_pick pC ((u_of pC p_c ([[116], [117]] : List Str)).2) 3).1))).toNat))).length : Int) - 1))).2) 4).2).1, ((u_pick pC ((u_pick pC ((u_one pC (x151, x152) 3).2) (IntKind.wrap .i64 (((([] : List Str) ++ (([[107], [97], [98], [99, 99]] : List Str).take ((IntKind.wrap .i64 (2 + ((u_pick pC ((u_of pC p_c ([[116], [117]] : List Str)).2) 3).1))).toNat))).length : Int) - 1))).2) 4).2).2, (x153 ++ ([(⟨(([[105], [106], [109]] : List Str).getD k85 d_Str), IntKind.wrap .i64 (1 + ((u_pick pC ((u_one pC (x151, x152) 3).2) (IntKind.wrap .i64 (((([] : List Str) ++ (([[107], [97], [98], [99, 99]] : List Str).take ((IntKind.wrap .i64 (2 + ((u_pick pC ((u_of pC p_c ([[116], [117]] : List Str)).2) 3).1))).toNat))).length : Int) - 1))).1)), (u_pick pC ((u_pick pC ((u_one pC (x151, x152) 3).2) (IntKind.wrap .i64 (((([] : List Str) ++ (([[107], [97], [98], [99, 99]] : List Str).take ((IntKind.wrap .i64 (2 + ((u_pick pC ((u_of pC p_c ([[116], [117]] : List Str)).2) 3).1))).toNat))).length : Int) - 1))).2) 4).1⟩ : DIdx)] : List DIdx)))
def u_table (pC : List Int) (p_c : Int × Int) : DTable × (Int × Int) :=
  loopE (loopM (B_u_table_0 pC p_c) (3 - 0) 0 (((u_pick pC ((u_of pC p_c ([[116], [117]] : List Str)).2) 3).2).1, ((u_pick pC ((u_of pC p_c ([[116], [117]] : List Str)).2) 3).2).2, ([] : List DIdx))) (fun r => r) (fun (x151, x152, x153) =>
    ((⟨(u_of pC p_c ([[116], [117]] : List Str)).1, (([] : List Str) ++ (([[107], [97], [98], [99, 99]] : List Str).take ((IntKind.wrap .i64 (2 + ((u_pick pC ((u_of pC p_c ([[116], [117]] : List Str)).2) 3).1))).toNat))), x153⟩ : DTable), (x151, x152)))
def u_bentTable (pC : List Int) (p_c : Int × Int) : DTable × (Int × Int) :=
  bif decide (((u_pick pC ((u_table pC p_c).2) 14).1) = 0) then
    ((⟨(u_of pC ((u_pick pC ((u_table pC p_c).2) 14).2) ([[], [116, 116], [84]] : List Str)).1, (u_table pC p_c).1.Cols, (u_table pC p_c).1.Idxs⟩ : DTable), ((u_of pC ((u_pick pC ((u_table pC p_c).2) 14).2) ([[], [116, 116], [84]] : List Str)).2))
  else
    bif decide (((u_pick pC ((u_table pC p_c).2) 14).1) = 1) then
      ((⟨(u_table pC p_c).1.Name, ((u_table pC p_c).1.Cols ++ ([(u_of pC ((u_pick pC ((u_table pC p_c).2) 14).2) ([[97], [97, 98, 99, 100], [], [100]] : List Str)).1] : List Str)), (u_table pC p_c).1.Idxs⟩ : DTable), ((u_of pC ((u_pick pC ((u_table pC p_c).2) 14).2) ([[97], [97, 98, 99, 100], [], [100]] : List Str)).2))
    else
      bif decide (((u_pick pC ((u_table pC p_c).2) 14).1) = 2) then
        ((⟨(u_table pC p_c).1.Name, (((u_table pC p_c).1.Cols).take 1), (u_table pC p_c).1.Idxs⟩ : DTable), ((u_pick pC ((u_table pC p_c).2) 14).2))
      else
        bif decide (((u_pick pC ((u_table pC p_c).2) 14).1) = 3) then
          ((⟨(u_table pC p_c).1.Name, (u_table pC p_c).1.Cols, ((u_table pC p_c).1.Idxs ++ ([(⟨(u_of pC ((u_pick pC ((u_table pC p_c).2) 14).2) ([[97], [122], [122, 122]] : List Str)).1, (u_pick pC ((u_of pC ((u_pick pC ((u_table pC p_c).2) 14).2) ([[97], [122], [122, 122]] : List Str)).2) 5).1, IntKind.wrap .i64 (((u_pick pC ((u_pick pC ((u_of pC ((u_pick pC ((u_table pC p_c).2) 14).2) ([[97], [122], [122, 122]] : List Str)).2) 5).2) 5).1) - 1)⟩ : DIdx)] : List DIdx))⟩ : DTable), ((u_pick pC ((u_pick pC ((u_of pC ((u_pick pC ((u_table pC p_c).2) 14).2) ([[97], [122], [122, 122]] : List Str)).2) 5).2) 5).2))
        else
          ((u_table pC p_c).1, ((u_pick pC ((u_table pC p_c).2) 14).2))
def s_DrawSetStage (p_code : List Int) : DTable × Str × Int :=
  ((u_bentTable p_code (0, 0)).1, (u_of p_code ((u_bentTable p_code (0, 0)).2) ([[105], [105], [105], [106], [109], [122]] : List Str)).1, IntKind.wrap .i64 (((u_pick p_code ((u_of p_code ((u_bentTable p_code (0, 0)).2) ([[105], [105], [105], [106], [109], [122]] : List Str)).2) 6).1) - 1))
def s_DrawWayTo (p_code : List Int) : DTable × Str × Int :=
  ((s_DrawSetStage p_code).1, (s_DrawSetStage p_code).2.1, (s_DrawSetStage p_code).2.2)
def i_within (p_n : Int) (p_low : Int) (p_high : Int) : Bool :=
  bif decide (p_low ≤ p_n) then
    decide (p_n ≤ p_high)
  else
    false
def i_isStage (p_stage : Int) : Bool :=
  (i_within p_stage 0 3)
def B_i_areLetters_0 (p_s : Str) (p_most : Int) (k2 : Nat) : Unit → Out Bool Unit
  | () => bif decide (((p_s.getD k2 0).toNat : Int) < 97) then
      .ret false
    else
      bif decide (122 < ((p_s.getD k2 0).toNat : Int)) then
        .ret false
      else
        .cont ()
def i_areLetters (p_s : Str) (p_most : Int) : Bool :=
  loopE (loopM (B_i_areLetters_0 p_s p_most) (p_s.length - 0) 0 ()) (fun r => r) (fun _ =>
    (i_within (p_s.length : Int) 1 p_most))
def B_g_slices_Index_string_0 (p_s : List Str) (p_v : Str) (k4 : Nat) : Unit → Out Int Unit
  | () => bif p_v == (p_s.getD k4 d_Str) then
      .ret (k4 : Int)
    else
      .cont ()
def g_slices_Index_string (p_s : List Str) (p_v : Str) : Int :=
  loopE (loopM (B_g_slices_Index_string_0 p_s p_v) (p_s.length - 0) 0 ()) (fun r => r) (fun _ =>
    -1)
def g_slices_Contains_string (p_s : List Str) (p_v : Str) : Bool :=
  decide (0 ≤ (g_slices_Index_string p_s p_v))
def B_i_GoodTable_0 (p_0 : DTable) (k19 : Nat) : Unit → Out Bool Unit
  | () => bif i_areLetters (p_0.Cols.getD k19 d_Str) 3 then
      bif g_slices_Contains_string (p_0.Cols.take k19) (p_0.Cols.getD k19 d_Str) then
        .ret false
      else
        .cont ()
    else
      .ret false
def B_i_GoodTable_1 (p_0 : DTable) (k35 : Nat) : Unit → Out Bool Unit
  | () => bif i_areLetters ((p_0.Idxs.getD k35 d_Idx).Name) 1 then
      bif i_within ((p_0.Idxs.getD k35 d_Idx).Col) 1 (IntKind.wrap .i64 ((p_0.Cols.length : Int) - 1)) then
        bif i_isStage ((p_0.Idxs.getD k35 d_Idx).Stage) then
          bif decide (0 < (k35 : Int)) then
            bif sLe ((p_0.Idxs.getD k35 d_Idx).Name) ((p_0.Idxs.getD ((IntKind.wrap .i64 ((k35 : Int) - 1)).toNat) d_Idx).Name) then
              .ret false
            else
              .cont ()
          else
            .cont ()
        else
          .ret false
      else
        .ret false
    else
      .ret false
def i_GoodTable (p_0 : DTable) : Bool :=
  bif i_areLetters p_0.Name 1 then
    bif i_within (p_0.Cols.length : Int) 2 4 then
      bif decide (3 < (p_0.Idxs.length : Int)) then
        false
      else
        loopE (loopM (B_i_GoodTable_0 p_0) (p_0.Cols.length - 0) 0 ()) (fun r => r) (fun _ =>
          loopE (loopM (B_i_GoodTable_1 p_0) (p_0.Idxs.length - 0) 0 ()) (fun r => r) (fun _ =>
            true))
    else
      false
  else
    false
def B_g_slices_IndexFunc_Idx_0 (p_s : List DIdx) (p_f : DIdx → Bool) (k7 : Nat) : Unit → Out Int Unit
  | () => bif p_f (p_s.getD k7 d_Idx) then
      .ret (k7 : Int)
    else
      .cont ()
def g_slices_IndexFunc_Idx (p_s : List DIdx) (p_f : DIdx → Bool) : Int :=
  loopE (loopM (B_g_slices_IndexFunc_Idx_0 p_s p_f) (p_s.length - 0) 0 ()) (fun r => r) (fun _ =>
    -1)
def i_Table_findIdx_c1 (p_x : DIdx) (p_cap0 : Str) : Bool :=
  p_x.Name == p_cap0
def i_Table_findIdx (p_t : DTable) (pn : Str) : Int :=
  (g_slices_IndexFunc_Idx p_t.Idxs (fun y0 => i_Table_findIdx_c1 y0 pn))
def i_hasIdx (p_t : DTable) (pn : Str) : Bool :=
  bif i_GoodTable p_t then
    decide (0 ≤ (i_Table_findIdx p_t pn))
  else
    false
def g_slices_Clone_string (p_s : List Str) : List Str :=
  (([] : List Str) ++ p_s)
def g_slices_Clone_Idx (p_s : List DIdx) : List DIdx :=
  (([] : List DIdx) ++ p_s)
def i_copyTable (p_t : DTable) : DTable :=
  (⟨p_t.Name, (g_slices_Clone_string p_t.Cols), (g_slices_Clone_Idx p_t.Idxs)⟩ : DTable)
def i_Table_withStage (p_t : DTable) (pn : Str) (p_stage : Int) : DTable :=
  (⟨(i_copyTable p_t).Name, (i_copyTable p_t).Cols, (((i_copyTable p_t).Idxs).set (((i_Table_findIdx p_t pn)).toNat) (⟨(((i_copyTable p_t).Idxs).getD (((i_Table_findIdx p_t pn)).toNat) d_Idx).Name, (((i_copyTable p_t).Idxs).getD (((i_Table_findIdx p_t pn)).toNat) d_Idx).Col, p_stage⟩ : DIdx))⟩ : DTable)
def i_Table_idx (p_t : DTable) (pn : Str) : DIdx :=
  (p_t.Idxs.getD (((i_Table_findIdx p_t pn)).toNat) d_Idx)
def B_i_Table_wayTo_0 (p_t : DTable) (pn : Str) (p_stage : Int) : Int × (List DTable) → Out (List DTable) (Int × (List DTable))
  | (x83, x84) => bif decide (x83 = p_stage) then
      .brk (x83, x84)
    else
      bif decide (x83 < p_stage) then
        .cont (IntKind.wrap .i64 (x83 + 1), (x84 ++ ([(i_Table_withStage p_t pn (IntKind.wrap .i64 (x83 + 1)))] : List DTable)))
      else
        .cont (IntKind.wrap .i64 (x83 - 1), (x84 ++ ([(i_Table_withStage p_t pn (IntKind.wrap .i64 (x83 - 1)))] : List DTable)))
def i_Table_wayTo (p_t : DTable) (pn : Str) (p_stage : Int) : List DTable :=
  loopE (loopW (B_i_Table_wayTo_0 p_t pn p_stage) (((p_stage - (i_Table_idx p_t pn).Stage).toNat + ((i_Table_idx p_t pn).Stage - p_stage).toNat) + 1) ((i_Table_idx p_t pn).Stage, ([(i_copyTable p_t)] : List DTable))) (fun r => r) (fun (x83, x84) =>
    x84)
def i_WayTo (p_t : DTable) (pn : Str) (p_stage : Int) : (List DTable) × Bool :=
  bif i_hasIdx p_t pn then
    bif i_isStage p_stage then
      ((i_Table_wayTo p_t pn p_stage), true)
    else
      (([] : List DTable), false)
  else
    (([] : List DTable), false)
def B_s_l24Letters_0 (p_s : Str) (p_most : Int) (k2 : Nat) : Unit → Out Bool Unit
  | () => bif decide (((p_s.getD k2 0).toNat : Int) < 97) then
      .ret false
    else
      bif decide (122 < ((p_s.getD k2 0).toNat : Int)) then
        .ret false
      else
        .cont ()
def s_l24Letters (p_s : Str) (p_most : Int) : Bool :=
  loopE (loopM (B_s_l24Letters_0 p_s p_most) (p_s.length - 0) 0 ()) (fun r => r) (fun _ =>
    bif decide (1 ≤ (p_s.length : Int)) then
      decide ((p_s.length : Int) ≤ p_most)
    else
      false)
def s_l1In (p_n : Int) (p_lo : Int) (p_hi : Int) : Bool :=
  bif decide (p_lo ≤ p_n) then
    decide (p_n ≤ p_hi)
  else
    false
def B_s_l24At_0 (p_l : List Str) (p_s : Str) (k4 : Nat) : Unit → Out Int Unit
  | () => bif (p_l.getD k4 d_Str) == p_s then
      .ret (k4 : Int)
    else
      .cont ()
def s_l24At (p_l : List Str) (p_s : Str) : Int :=
  loopE (loopM (B_s_l24At_0 p_l p_s) (p_l.length - 0) 0 ()) (fun r => r) (fun _ =>
    -1)
def B_s_l24Cols_0 (p_l : List Str) (k3 : Nat) : Unit → Out Bool Unit
  | () => bif s_l24Letters (p_l.getD k3 d_Str) 3 then
      bif decide (0 ≤ (s_l24At (p_l.take k3) (p_l.getD k3 d_Str))) then
        .ret false
      else
        .cont ()
    else
      .ret false
def s_l24Cols (p_l : List Str) : Bool :=
  loopE (loopM (B_s_l24Cols_0 p_l) (p_l.length - 0) 0 ()) (fun r => r) (fun _ =>
    (s_l1In (p_l.length : Int) 2 4))
def B_s_GoodTable_0 (p_0 : DTable) (k19 : Nat) : Unit → Out Bool Unit
  | () => bif s_l24Letters ((p_0.Idxs.getD k19 d_Idx).Name) 1 then
      bif s_l1In ((p_0.Idxs.getD k19 d_Idx).Col) 1 (IntKind.wrap .i64 ((p_0.Cols.length : Int) - 1)) then
        bif s_l1In ((p_0.Idxs.getD k19 d_Idx).Stage) 0 3 then
          bif decide (0 < (k19 : Int)) then
            bif sLt ((p_0.Idxs.getD ((IntKind.wrap .i64 ((k19 : Int) - 1)).toNat) d_Idx).Name) ((p_0.Idxs.getD k19 d_Idx).Name) then
              .cont ()
            else
              .ret false
          else
            .cont ()
        else
          .ret false
      else
        .ret false
    else
      .ret false
def s_GoodTable (p_0 : DTable) : Bool :=
  bif s_l24Letters p_0.Name 1 then
    bif s_l24Cols p_0.Cols then
      bif decide (3 < (p_0.Idxs.length : Int)) then
        false
      else
        loopE (loopM (B_s_GoodTable_0 p_0) (p_0.Idxs.length - 0) 0 ()) (fun r => r) (fun _ =>
          true)
    else
      false
  else
    false
def B_s_l24Idx_0 (p_t : DTable) (pn : Str) (k11 : Nat) : Unit → Out Int Unit
  | () => bif ((p_t.Idxs.getD k11 d_Idx).Name) == pn then
      .ret (k11 : Int)
    else
      .cont ()
def s_l24Idx (p_t : DTable) (pn : Str) : Int :=
  loopE (loopM (B_s_l24Idx_0 p_t pn) (p_t.Idxs.length - 0) 0 ()) (fun r => r) (fun _ =>
    -1)
def s_l24Asked (p_t : DTable) (pn : Str) (p_stage : Int) : Bool :=
  bif s_GoodTable p_t then
    bif decide (0 ≤ (s_l24Idx p_t pn)) then
      (s_l1In p_stage 0 3)
    else
      false
  else
    false
def s_l24Own (p_t : DTable) : DTable :=
  (⟨p_t.Name, (([] : List Str) ++ p_t.Cols), (([] : List DIdx) ++ p_t.Idxs)⟩ : DTable)
def s_l24Set (p_t : DTable) (pn : Str) (p_stage : Int) : DTable :=
  (⟨(s_l24Own p_t).Name, (s_l24Own p_t).Cols, (((s_l24Own p_t).Idxs).set (((s_l24Idx p_t pn)).toNat) (⟨(((s_l24Own p_t).Idxs).getD (((s_l24Idx p_t pn)).toNat) d_Idx).Name, (((s_l24Own p_t).Idxs).getD (((s_l24Idx p_t pn)).toNat) d_Idx).Col, p_stage⟩ : DIdx))⟩ : DTable)
def B_s_l24Way_0 (p_t : DTable) (pn : Str) (p_stage : Int) : (List DTable) × Int → Out (List DTable) ((List DTable) × Int)
  | (x81, x85) => bif decide (x85 = p_stage) then
      .brk (x81, x85)
    else
      bif decide (x85 < p_stage) then
        .cont ((x81 ++ ([(s_l24Set p_t pn (IntKind.wrap .i64 (x85 + 1)))] : List DTable)), IntKind.wrap .i64 (x85 + 1))
      else
        .cont ((x81 ++ ([(s_l24Set p_t pn (IntKind.wrap .i64 (x85 - 1)))] : List DTable)), IntKind.wrap .i64 (x85 - 1))
def s_l24Way (p_t : DTable) (pn : Str) (p_stage : Int) : List DTable :=
  loopE (loopW (B_s_l24Way_0 p_t pn p_stage) (((p_stage - (p_t.Idxs.getD (((s_l24Idx p_t pn)).toNat) d_Idx).Stage).toNat + ((p_t.Idxs.getD (((s_l24Idx p_t pn)).toNat) d_Idx).Stage - p_stage).toNat) + 1) (([(s_l24Own p_t)] : List DTable), (p_t.Idxs.getD (((s_l24Idx p_t pn)).toNat) d_Idx).Stage)) (fun r => r) (fun (x81, x85) =>
    x81)
def s_WayTo (p_t : DTable) (pn : Str) (p_stage : Int) : (List DTable) × Bool :=
  bif s_l24Asked p_t pn p_stage then
    ((s_l24Way p_t pn p_stage), true)
  else
    (([] : List DTable), false)
def i_SetStage (p_t : DTable) (pn : Str) (p_stage : Int) : DTable × Bool :=
  bif i_hasIdx p_t pn then
    bif i_isStage p_stage then
      ((i_Table_withStage p_t pn p_stage), true)
    else
      ((⟨([] : Str), [], []⟩ : DTable), false)
  else
    ((⟨([] : Str), [], []⟩ : DTable), false)
def s_SetStage (p_t : DTable) (pn : Str) (p_stage : Int) : DTable × Bool :=
  bif s_l24Asked p_t pn p_stage then
    ((s_l24Set p_t pn p_stage), true)
  else
    ((⟨([] : Str), [], []⟩ : DTable), false)
def i_IdxAt (p_t : DTable) (pn : Str) : DIdx × Bool :=
  bif i_hasIdx p_t pn then
    ((i_Table_idx p_t pn), true)
  else
    ((⟨([] : Str), 0, 0⟩ : DIdx), false)
def s_IdxAt (p_t : DTable) (pn : Str) : DIdx × Bool :=
  bif s_GoodTable p_t then
    bif decide ((s_l24Idx p_t pn) < 0) then
      ((⟨([] : Str), 0, 0⟩ : DIdx), false)
    else
      ((p_t.Idxs.getD (((s_l24Idx p_t pn)).toNat) d_Idx), true)
  else
    ((⟨([] : Str), 0, 0⟩ : DIdx), false)
def B_l_qSameS_0 (p_a : List Str) (p_b : List Str) (k6 : Nat) : Unit → Out Bool Unit
  | () => bif (p_a.getD k6 d_Str) == (p_b.getD k6 d_Str) then
      .cont ()
    else
      .ret false
def l_qSameS (p_a : List Str) (p_b : List Str) : Bool :=
  bif decide ((p_a.length : Int) = (p_b.length : Int)) then
    loopE (loopM (B_l_qSameS_0 p_a p_b) (p_a.length - 0) 0 ()) (fun r => r) (fun _ =>
      true)
  else
    false
def B_l_qSameT_0 (p_a : DTable) (p_b : DTable) (k25 : Nat) : Unit → Out Bool Unit
  | () => bif (((p_a.Idxs.getD k25 d_Idx).Name) == ((p_b.Idxs.getD k25 d_Idx).Name)) && ((decide (((p_a.Idxs.getD k25 d_Idx).Col) = ((p_b.Idxs.getD k25 d_Idx).Col))) && (decide (((p_a.Idxs.getD k25 d_Idx).Stage) = ((p_b.Idxs.getD k25 d_Idx).Stage)))) then
      .cont ()
    else
      .ret false
def l_qSameT (p_a : DTable) (p_b : DTable) : Bool :=
  bif p_a.Name == p_b.Name then
    bif l_qSameS p_a.Cols p_b.Cols then
      bif decide ((p_a.Idxs.length : Int) = (p_b.Idxs.length : Int)) then
        loopE (loopM (B_l_qSameT_0 p_a p_b) (p_a.Idxs.length - 0) 0 ()) (fun r => r) (fun _ =>
          true)
      else
        false
    else
      false
  else
    false
def B_l_qSameTs_0 (p_a : List DTable) (p_b : List DTable) (k6 : Nat) : Unit → Out Bool Unit
  | () => bif l_qSameT (p_a.getD k6 d_Table) (p_b.getD k6 d_Table) then
      .cont ()
    else
      .ret false
def l_qSameTs (p_a : List DTable) (p_b : List DTable) : Bool :=
  bif decide ((p_a.length : Int) = (p_b.length : Int)) then
    loopE (loopM (B_l_qSameTs_0 p_a p_b) (p_a.length - 0) 0 ()) (fun r => r) (fun _ =>
      true)
  else
    false
def B_g_slices_Equal_string_0 (p_s1 : List Str) (p_s2 : List Str) (k6 : Nat) : Unit → Out Bool Unit
  | () => bif (p_s1.getD k6 d_Str) == (p_s2.getD k6 d_Str) then
      .cont ()
    else
      .ret false
def g_slices_Equal_string (p_s1 : List Str) (p_s2 : List Str) : Bool :=
  bif decide ((p_s1.length : Int) = (p_s2.length : Int)) then
    loopE (loopM (B_g_slices_Equal_string_0 p_s1 p_s2) (p_s1.length - 0) 0 ()) (fun r => r) (fun _ =>
      true)
  else
    false
def B_g_slices_Equal_Idx_0 (p_s1 : List DIdx) (p_s2 : List DIdx) (k6 : Nat) : Unit → Out Bool Unit
  | () => bif (((p_s1.getD k6 d_Idx).Name) == ((p_s2.getD k6 d_Idx).Name)) && ((decide (((p_s1.getD k6 d_Idx).Col) = ((p_s2.getD k6 d_Idx).Col))) && (decide (((p_s1.getD k6 d_Idx).Stage) = ((p_s2.getD k6 d_Idx).Stage)))) then
      .cont ()
    else
      .ret false
def g_slices_Equal_Idx (p_s1 : List DIdx) (p_s2 : List DIdx) : Bool :=
  bif decide ((p_s1.length : Int) = (p_s2.length : Int)) then
    loopE (loopM (B_g_slices_Equal_Idx_0 p_s1 p_s2) (p_s1.length - 0) 0 ()) (fun r => r) (fun _ =>
      true)
  else
    false
def i_sameTable (p_a : DTable) (p_b : DTable) : Bool :=
  bif p_a.Name == p_b.Name then
    bif g_slices_Equal_string p_a.Cols p_b.Cols then
      (g_slices_Equal_Idx p_a.Idxs p_b.Idxs)
    else
      false
  else
    false
def B_i_NextTo_1 (p_a : DTable) (p_b : DTable) (k31 : Nat) (k75 : Nat) : Unit → Out (Bool × Bool) Unit
  | () => bif i_sameTable (i_Table_withStage p_a ((p_a.Idxs.getD k31 d_Idx).Name) (([IntKind.wrap .i64 (((p_a.Idxs.getD k31 d_Idx).Stage) - 1), IntKind.wrap .i64 (((p_a.Idxs.getD k31 d_Idx).Stage) + 1)] : List Int).getD k75 d_Int)) p_b then
      .ret (true, true)
    else
      .cont ()
def B_i_NextTo_0 (p_a : DTable) (p_b : DTable) (k31 : Nat) : Unit → Out (Bool × Bool) Unit
  | () => loopE (loopM (B_i_NextTo_1 p_a p_b k31) (2 - 0) 0 ()) (fun r => Out.ret r) (fun _ =>
      .cont ())
def i_NextTo (p_a : DTable) (p_b : DTable) : Bool × Bool :=
  bif i_GoodTable p_a then
    bif i_GoodTable p_b then
      bif i_sameTable p_a p_b then
        (true, true)
      else
        loopE (loopM (B_i_NextTo_0 p_a p_b) (p_a.Idxs.length - 0) 0 ()) (fun r => r) (fun _ =>
          (false, true))
    else
      (false, false)
  else
    (false, false)
def g_strings_Join (p_elems : List Str) (p_sep : Str) : Str :=
  p_sep.intercalate p_elems
def g_strconv_Itoa (p_i : Int) : Str := [(48 + p_i).toNat.toUInt8]
def B_i_tableText_0 (p_t : DTable) (k15 : Nat) : Str → Out Str Str
  | (x64) => .cont (x64 ++ (((((([32] : Str) ++ ((p_t.Idxs.getD k15 d_Idx).Name)) ++ ([47] : Str)) ++ (p_t.Cols.getD (((p_t.Idxs.getD k15 d_Idx).Col).toNat) d_Str)) ++ ([47] : Str)) ++ (g_strconv_Itoa ((p_t.Idxs.getD k15 d_Idx).Stage))))
def i_tableText (p_t : DTable) : Str :=
  loopE (loopM (B_i_tableText_0 p_t) (p_t.Idxs.length - 0) 0 (((p_t.Name ++ ([40] : Str)) ++ (g_strings_Join p_t.Cols ([44] : Str))) ++ ([41] : Str))) (fun r => r) (fun x64 =>
    x64)
def i_TableText (p_t : DTable) : Str × Bool :=
  bif i_GoodTable p_t then
    ((i_tableText p_t), true)
  else
    (([] : Str), false)
def g_internal_stringslite_IndexByte (p_s : Str) (p_c : Int) : Int :=
  idxB p_s p_c
def g_internal_bytealg_Cutover (p_n : Int) : Int :=
  IntKind.wrap .i64 (Int.tdiv (IntKind.wrap .i64 (p_n + 16)) 8)
def g_internal_stringslite_Index (p_0 : Str) (p_1 : Str) : Int :=
  bif p_1 == p_0 then
    0
  else
    (g_internal_stringslite_IndexByte p_0 ((p_1.getD 0 0).toNat : Int))
def g_internal_stringslite_Cut (p_s : Str) (p_sep : Str) : Str × Str × Bool :=
  bif decide (0 ≤ (g_internal_stringslite_Index p_s p_sep)) then
    ((p_s.take (((g_internal_stringslite_Index p_s p_sep)).toNat)), (p_s.drop ((IntKind.wrap .i64 ((g_internal_stringslite_Index p_s p_sep) + (p_sep.length : Int))).toNat)), true)
  else
    (p_s, ([] : Str), false)
def g_strings_Cut (p_s : Str) (p_sep : Str) : Str × Str × Bool :=
  ((g_internal_stringslite_Cut p_s p_sep).1, (g_internal_stringslite_Cut p_s p_sep).2.1, (g_internal_stringslite_Cut p_s p_sep).2.2)
def g_strings_Split (p_s : Str) (p_sep : Str) : List Str :=
  sp (p_sep.headD 0) p_s
def i_readInt (p_s : Str) (p_low : Int) (p_high : Int) : Int × Bool := match p_s with
  | [c] => bif (decide (48 ≤ c.toNat) && decide (c.toNat ≤ 57) && i_within ((c.toNat : Int) - 48) p_low p_high) then ((c.toNat : Int) - 48, true) else (0, false)
  | _ => (0, false)
def B_i_ReadTable_0 (p_0 : Str) (k41 : Nat) : Bool × (List DIdx) → Out (DTable × Bool) (Bool × (List DIdx))
  | (x109, x110) => bif decide ((k41 : Int) = 0) then
      .cont (x109, x110)
    else
      bif decide (((g_strings_Split ((g_strings_Split ((g_strings_Cut p_0 ([41] : Str)).2.1) ([32] : Str)).getD k41 d_Str) ([47] : Str)).length : Int) = 3) then
        bif x109 then
          .cont ((i_readInt ((g_strings_Split ((g_strings_Split ((g_strings_Cut p_0 ([41] : Str)).2.1) ([32] : Str)).getD k41 d_Str) ([47] : Str)).getD 2 d_Str) 0 3).2, (x110 ++ ([(⟨((g_strings_Split ((g_strings_Split ((g_strings_Cut p_0 ([41] : Str)).2.1) ([32] : Str)).getD k41 d_Str) ([47] : Str)).getD 0 d_Str), (g_slices_Index_string (g_strings_Split ((g_strings_Cut ((g_strings_Cut p_0 ([41] : Str)).1) ([40] : Str)).2.1) ([44] : Str)) ((g_strings_Split ((g_strings_Split ((g_strings_Cut p_0 ([41] : Str)).2.1) ([32] : Str)).getD k41 d_Str) ([47] : Str)).getD 1 d_Str)), (i_readInt ((g_strings_Split ((g_strings_Split ((g_strings_Cut p_0 ([41] : Str)).2.1) ([32] : Str)).getD k41 d_Str) ([47] : Str)).getD 2 d_Str) 0 3).1⟩ : DIdx)] : List DIdx)))
        else
          .cont (false, (x110 ++ ([(⟨((g_strings_Split ((g_strings_Split ((g_strings_Cut p_0 ([41] : Str)).2.1) ([32] : Str)).getD k41 d_Str) ([47] : Str)).getD 0 d_Str), (g_slices_Index_string (g_strings_Split ((g_strings_Cut ((g_strings_Cut p_0 ([41] : Str)).1) ([40] : Str)).2.1) ([44] : Str)) ((g_strings_Split ((g_strings_Split ((g_strings_Cut p_0 ([41] : Str)).2.1) ([32] : Str)).getD k41 d_Str) ([47] : Str)).getD 1 d_Str)), (i_readInt ((g_strings_Split ((g_strings_Split ((g_strings_Cut p_0 ([41] : Str)).2.1) ([32] : Str)).getD k41 d_Str) ([47] : Str)).getD 2 d_Str) 0 3).1⟩ : DIdx)] : List DIdx)))
      else
        .ret ((⟨([] : Str), [], []⟩ : DTable), false)
def i_ReadTable (p_0 : Str) : DTable × Bool :=
  loopE (loopM (B_i_ReadTable_0 p_0) ((g_strings_Split ((g_strings_Cut p_0 ([41] : Str)).2.1) ([32] : Str)).length - 0) 0 ((g_strings_Cut p_0 ([41] : Str)).2.2, ([] : List DIdx))) (fun r => r) (fun (x109, x110) =>
    bif x109 then
      bif (g_strings_Cut ((g_strings_Cut p_0 ([41] : Str)).1) ([40] : Str)).2.2 then
        bif i_GoodTable (⟨(g_strings_Cut ((g_strings_Cut p_0 ([41] : Str)).1) ([40] : Str)).1, (g_strings_Split ((g_strings_Cut ((g_strings_Cut p_0 ([41] : Str)).1) ([40] : Str)).2.1) ([44] : Str)), x110⟩ : DTable) then
          bif (i_tableText (⟨(g_strings_Cut ((g_strings_Cut p_0 ([41] : Str)).1) ([40] : Str)).1, (g_strings_Split ((g_strings_Cut ((g_strings_Cut p_0 ([41] : Str)).1) ([40] : Str)).2.1) ([44] : Str)), x110⟩ : DTable)) == p_0 then
            ((⟨(g_strings_Cut ((g_strings_Cut p_0 ([41] : Str)).1) ([40] : Str)).1, (g_strings_Split ((g_strings_Cut ((g_strings_Cut p_0 ([41] : Str)).1) ([40] : Str)).2.1) ([44] : Str)), x110⟩ : DTable), true)
          else
            ((⟨([] : Str), [], []⟩ : DTable), false)
        else
          ((⟨([] : Str), [], []⟩ : DTable), false)
      else
        ((⟨([] : Str), [], []⟩ : DTable), false)
    else
      ((⟨([] : Str), [], []⟩ : DTable), false))
def s_DrawNextTo (p_code : List Int) : DTable × DTable :=
  bif decide (0 < (((s_l24Own ((u_bentTable p_code (0, 0)).1)).Idxs).length : Int)) then
    bif (u_one p_code ((u_pick p_code ((u_pick p_code ((u_bentTable p_code (0, 0)).2) (((s_l24Own ((u_bentTable p_code (0, 0)).1)).Idxs).length : Int)).2) 4).2) 9).1 then
      bif (u_one p_code ((u_pick p_code ((u_one p_code ((u_pick p_code ((u_pick p_code ((u_bentTable p_code (0, 0)).2) (((s_l24Own ((u_bentTable p_code (0, 0)).1)).Idxs).length : Int)).2) 4).2) 9).2) 3).2) 9).1 then
        ((u_bentTable p_code (0, 0)).1, (u_table p_code ((u_one p_code ((u_pick p_code ((u_one p_code ((u_pick p_code ((u_pick p_code ((u_bentTable p_code (0, 0)).2) (((s_l24Own ((u_bentTable p_code (0, 0)).1)).Idxs).length : Int)).2) 4).2) 9).2) 3).2) 9).2)).1)
      else
        ((u_bentTable p_code (0, 0)).1, (⟨(s_l24Own ((u_bentTable p_code (0, 0)).1)).Name, (s_l24Own ((u_bentTable p_code (0, 0)).1)).Cols, (((s_l24Own ((u_bentTable p_code (0, 0)).1)).Idxs).set (((u_pick p_code ((u_bentTable p_code (0, 0)).2) (((s_l24Own ((u_bentTable p_code (0, 0)).1)).Idxs).length : Int)).1).toNat) (⟨(((s_l24Own ((u_bentTable p_code (0, 0)).1)).Idxs).getD (((u_pick p_code ((u_bentTable p_code (0, 0)).2) (((s_l24Own ((u_bentTable p_code (0, 0)).1)).Idxs).length : Int)).1).toNat) d_Idx).Name, IntKind.wrap .i64 (1 + ((u_pick p_code ((u_one p_code ((u_pick p_code ((u_pick p_code ((u_bentTable p_code (0, 0)).2) (((s_l24Own ((u_bentTable p_code (0, 0)).1)).Idxs).length : Int)).2) 4).2) 9).2) 3).1)), (u_pick p_code ((u_pick p_code ((u_bentTable p_code (0, 0)).2) (((s_l24Own ((u_bentTable p_code (0, 0)).1)).Idxs).length : Int)).2) 4).1⟩ : DIdx))⟩ : DTable))
    else
      bif (u_one p_code ((u_one p_code ((u_pick p_code ((u_pick p_code ((u_bentTable p_code (0, 0)).2) (((s_l24Own ((u_bentTable p_code (0, 0)).1)).Idxs).length : Int)).2) 4).2) 9).2) 9).1 then
        ((u_bentTable p_code (0, 0)).1, (u_table p_code ((u_one p_code ((u_one p_code ((u_pick p_code ((u_pick p_code ((u_bentTable p_code (0, 0)).2) (((s_l24Own ((u_bentTable p_code (0, 0)).1)).Idxs).length : Int)).2) 4).2) 9).2) 9).2)).1)
      else
        ((u_bentTable p_code (0, 0)).1, (⟨(s_l24Own ((u_bentTable p_code (0, 0)).1)).Name, (s_l24Own ((u_bentTable p_code (0, 0)).1)).Cols, (((s_l24Own ((u_bentTable p_code (0, 0)).1)).Idxs).set (((u_pick p_code ((u_bentTable p_code (0, 0)).2) (((s_l24Own ((u_bentTable p_code (0, 0)).1)).Idxs).length : Int)).1).toNat) (⟨(((s_l24Own ((u_bentTable p_code (0, 0)).1)).Idxs).getD (((u_pick p_code ((u_bentTable p_code (0, 0)).2) (((s_l24Own ((u_bentTable p_code (0, 0)).1)).Idxs).length : Int)).1).toNat) d_Idx).Name, (((s_l24Own ((u_bentTable p_code (0, 0)).1)).Idxs).getD (((u_pick p_code ((u_bentTable p_code (0, 0)).2) (((s_l24Own ((u_bentTable p_code (0, 0)).1)).Idxs).length : Int)).1).toNat) d_Idx).Col, (u_pick p_code ((u_pick p_code ((u_bentTable p_code (0, 0)).2) (((s_l24Own ((u_bentTable p_code (0, 0)).1)).Idxs).length : Int)).2) 4).1⟩ : DIdx))⟩ : DTable))
  else
    bif (u_one p_code ((u_bentTable p_code (0, 0)).2) 9).1 then
      ((u_bentTable p_code (0, 0)).1, (u_table p_code ((u_one p_code ((u_bentTable p_code (0, 0)).2) 9).2)).1)
    else
      ((u_bentTable p_code (0, 0)).1, (s_l24Own ((u_bentTable p_code (0, 0)).1)))
def B_s_l24SameCols_0 (p_0 : DTable) (p_1 : DTable) (k22 : Nat) : Unit → Out Bool Unit
  | () => bif (p_0.Cols.getD k22 d_Str) == (p_1.Cols.getD k22 d_Str) then
      .cont ()
    else
      .ret false
def B_s_l24SameCols_1 (p_0 : DTable) (p_1 : DTable) (k26 : Nat) : Unit → Out Bool Unit
  | () => bif ((p_0.Idxs.getD k26 d_Idx).Name) == ((p_1.Idxs.getD k26 d_Idx).Name) then
      bif decide (((p_0.Idxs.getD k26 d_Idx).Col) = ((p_1.Idxs.getD k26 d_Idx).Col)) then
        .cont ()
      else
        .ret false
    else
      .ret false
def s_l24SameCols (p_0 : DTable) (p_1 : DTable) : Bool :=
  bif p_0.Name == p_1.Name then
    bif decide ((p_0.Cols.length : Int) = (p_1.Cols.length : Int)) then
      bif decide ((p_0.Idxs.length : Int) = (p_1.Idxs.length : Int)) then
        loopE (loopM (B_s_l24SameCols_0 p_0 p_1) (p_0.Cols.length - 0) 0 ()) (fun r => r) (fun _ =>
          loopE (loopM (B_s_l24SameCols_1 p_0 p_1) (p_0.Idxs.length - 0) 0 ()) (fun r => r) (fun _ =>
            true))
      else
        false
    else
      false
  else
    false
def s_l1Most (p_a : Int) (p_b : Int) : Int :=
  bif decide (p_b < p_a) then
    p_a
  else
    p_b
def B_s_l24Far_0 (p_a : DTable) (p_b : DTable) (k19 : Nat) : Int → Out Int Int
  | (x20) => .cont (IntKind.wrap .i64 (x20 + (s_l1Most (IntKind.wrap .i64 (((p_a.Idxs.getD k19 d_Idx).Stage) - ((p_b.Idxs.getD k19 d_Idx).Stage))) (IntKind.wrap .i64 (0 - (IntKind.wrap .i64 (((p_a.Idxs.getD k19 d_Idx).Stage) - ((p_b.Idxs.getD k19 d_Idx).Stage))))))))
def s_l24Far (p_a : DTable) (p_b : DTable) : Int :=
  loopE (loopM (B_s_l24Far_0 p_a p_b) (p_a.Idxs.length - 0) 0 (0)) (fun r => r) (fun x20 =>
    x20)
def s_NextTo (p_a : DTable) (p_b : DTable) : Bool × Bool :=
  bif s_GoodTable p_a then
    bif s_GoodTable p_b then
      bif s_l24SameCols p_a p_b then
        (decide ((s_l24Far p_a p_b) ≤ 1), true)
      else
        (false, true)
    else
      (false, false)
  else
    (false, false)
def B_s_l24Join_0 (p_l : List Str) (p_by : Str) (k4 : Nat) : Str → Out Str Str
  | (x12) => bif decide (0 < (k4 : Int)) then
      .cont ((x12 ++ p_by) ++ (p_l.getD k4 d_Str))
    else
      .cont (x12 ++ (p_l.getD k4 d_Str))
def s_l24Join (p_l : List Str) (p_by : Str) : Str :=
  loopE (loopM (B_s_l24Join_0 p_l p_by) (p_l.length - 0) 0 (([] : Str))) (fun r => r) (fun x12 =>
    x12)
def s_l1Num (p_n : Int) : Str :=
  toS ([IntKind.wrap .u8 (IntKind.wrap .i64 (48 + p_n))] : List Int)
def B_s_l24Text_0 (p_t : DTable) (k14 : Nat) : Str → Out Str Str
  | (x63) => .cont (x63 ++ (((((([32] : Str) ++ ((p_t.Idxs.getD k14 d_Idx).Name)) ++ ([47] : Str)) ++ (p_t.Cols.getD (((p_t.Idxs.getD k14 d_Idx).Col).toNat) d_Str)) ++ ([47] : Str)) ++ (s_l1Num ((p_t.Idxs.getD k14 d_Idx).Stage))))
def s_l24Text (p_t : DTable) : Str :=
  loopE (loopM (B_s_l24Text_0 p_t) (p_t.Idxs.length - 0) 0 (((p_t.Name ++ ([40] : Str)) ++ (s_l24Join p_t.Cols ([44] : Str))) ++ ([41] : Str))) (fun r => r) (fun x63 =>
    x63)
def B_u_spoilt_0 (pC : List Int) (p_0 : Int × Int) (p_1 : Str) (p_2 : Str) : Str × Int × Int × Int → Out (Str × (Int × Int)) (Str × Int × Int × Int)
  | (x104, x105, x106, x107) => bif decide (0 < x105) then
      bif decide (0 < (x104.length : Int)) then
        bif decide (((u_pick pC ((u_pick pC ((u_pick pC (x106, x107) (x104.length : Int)).2) (p_2.length : Int)).2) 3).1) = 0) then
          .cont (((x104.take (((u_pick pC (x106, x107) (x104.length : Int)).1).toNat)) ++ (toS ([((p_2.getD ((u_pick pC ((u_pick pC (x106, x107) (x104.length : Int)).2) (p_2.length : Int)).1).toNat 0).toNat : Int)] : List Int))) ++ (x104.drop (((u_pick pC (x106, x107) (x104.length : Int)).1).toNat)), IntKind.wrap .i64 (x105 - 1), ((u_pick pC ((u_pick pC ((u_pick pC (x106, x107) (x104.length : Int)).2) (p_2.length : Int)).2) 3).2).1, ((u_pick pC ((u_pick pC ((u_pick pC (x106, x107) (x104.length : Int)).2) (p_2.length : Int)).2) 3).2).2)
        else
          bif decide (((u_pick pC ((u_pick pC ((u_pick pC (x106, x107) (x104.length : Int)).2) (p_2.length : Int)).2) 3).1) = 1) then
            .cont (((x104.take (((u_pick pC (x106, x107) (x104.length : Int)).1).toNat)) ++ (toS ([((p_2.getD ((u_pick pC ((u_pick pC (x106, x107) (x104.length : Int)).2) (p_2.length : Int)).1).toNat 0).toNat : Int)] : List Int))) ++ (x104.drop ((IntKind.wrap .i64 (((u_pick pC (x106, x107) (x104.length : Int)).1) + 1)).toNat)), IntKind.wrap .i64 (x105 - 1), ((u_pick pC ((u_pick pC ((u_pick pC (x106, x107) (x104.length : Int)).2) (p_2.length : Int)).2) 3).2).1, ((u_pick pC ((u_pick pC ((u_pick pC (x106, x107) (x104.length : Int)).2) (p_2.length : Int)).2) 3).2).2)
          else
            .cont ((x104.take (((u_pick pC (x106, x107) (x104.length : Int)).1).toNat)) ++ (x104.drop ((IntKind.wrap .i64 (((u_pick pC (x106, x107) (x104.length : Int)).1) + 1)).toNat)), IntKind.wrap .i64 (x105 - 1), ((u_pick pC ((u_pick pC ((u_pick pC (x106, x107) (x104.length : Int)).2) (p_2.length : Int)).2) 3).2).1, ((u_pick pC ((u_pick pC ((u_pick pC (x106, x107) (x104.length : Int)).2) (p_2.length : Int)).2) 3).2).2)
      else
        .brk (x104, x105, x106, x107)
    else
      .brk (x104, x105, x106, x107)
def u_spoilt (pC : List Int) (p_0 : Int × Int) (p_1 : Str) (p_2 : Str) : Str × (Int × Int) :=
  loopE (loopW (B_u_spoilt_0 pC p_0 p_1 p_2) (((IntKind.wrap .i64 (1 + ((u_pick pC p_0 2).1))).toNat) + 1) (p_1, IntKind.wrap .i64 (1 + ((u_pick pC p_0 2).1)), ((u_pick pC p_0 2).2).1, ((u_pick pC p_0 2).2).2)) (fun r => r) (fun (x104, x105, x106, x107) =>
    (x104, (x106, x107)))
def s_DrawReadTable (p_code : List Int) : Str :=
  bif (u_one p_code ((u_table p_code (0, 0)).2) 2).1 then
    (u_spoilt p_code ((u_one p_code ((u_table p_code (0, 0)).2) 2).2) (s_l24Text ((u_table p_code (0, 0)).1)) ([97, 98, 40, 41, 44, 32, 47, 48, 49, 50, 51, 105] : Str)).1
  else
    (s_l24Text ((u_table p_code (0, 0)).1))
def B_s_l1Split_0 (p_s : Str) (p_b : Int) (k2 : Nat) : (List Str) × Int → Out (List Str) ((List Str) × Int)
  | (x20, x24) => bif decide (((p_s.getD k2 0).toNat : Int) = p_b) then
      .cont ((x20 ++ ([((p_s.take k2).drop ((x24).toNat))] : List Str)), ((k2 + 1 : Nat) : Int))
    else
      .cont (x20, x24)
def s_l1Split (p_s : Str) (p_b : Int) : List Str :=
  loopE (loopM (B_s_l1Split_0 p_s p_b) (p_s.length - 0) 0 (([] : List Str), 0)) (fun r => r) (fun (x20, x24) =>
    (x20 ++ ([(p_s.drop ((x24).toNat))] : List Str)))
def s_l24Read (p_t : DTable) (p_word : Str) : DIdx × Bool :=
  bif decide (((s_l1Split p_word 47).length : Int) = 3) then
    bif decide ((((s_l1Split p_word 47).getD 2 d_Str).length : Int) = 1) then
      ((⟨((s_l1Split p_word 47).getD 0 d_Str), (s_l24At p_t.Cols ((s_l1Split p_word 47).getD 1 d_Str)), IntKind.wrap .i64 ((IntKind.wrap .i64 ((((s_l1Split p_word 47).getD 2 d_Str).getD 0 0).toNat : Int)) - 48)⟩ : DIdx), true)
    else
      ((⟨([] : Str), 0, 0⟩ : DIdx), false)
  else
    ((⟨([] : Str), 0, 0⟩ : DIdx), false)
def B_s_ReadTable_0 (p_0 : Str) (k39 : Nat) : (List DIdx) → Out (DTable × Bool) (List DIdx)
  | (x76) => bif (s_l24Read (⟨(((s_l1Split p_0 32).getD 0 d_Str).take 1), (s_l1Split ((((s_l1Split p_0 32).getD 0 d_Str).take ((IntKind.wrap .i64 ((((s_l1Split p_0 32).getD 0 d_Str).length : Int) - 1)).toNat)).drop 2) 44), x76⟩ : DTable) (((s_l1Split p_0 32).drop 1).getD k39 d_Str)).2 then
      .cont ((x76 ++ ([(s_l24Read (⟨(((s_l1Split p_0 32).getD 0 d_Str).take 1), (s_l1Split ((((s_l1Split p_0 32).getD 0 d_Str).take ((IntKind.wrap .i64 ((((s_l1Split p_0 32).getD 0 d_Str).length : Int) - 1)).toNat)).drop 2) 44), x76⟩ : DTable) (((s_l1Split p_0 32).drop 1).getD k39 d_Str)).1] : List DIdx)))
    else
      .ret ((⟨([] : Str), [], []⟩ : DTable), false)
def s_ReadTable (p_0 : Str) : DTable × Bool :=
  bif decide ((((s_l1Split p_0 32).getD 0 d_Str).length : Int) < 3) then
    ((⟨([] : Str), [], []⟩ : DTable), false)
  else
    bif decide (((((s_l1Split p_0 32).getD 0 d_Str).getD 1 0).toNat : Int) = 40) then
      bif decide (((((s_l1Split p_0 32).getD 0 d_Str).getD (IntKind.wrap .i64 ((((s_l1Split p_0 32).getD 0 d_Str).length : Int) - 1)).toNat 0).toNat : Int) = 41) then
        loopE (loopM (B_s_ReadTable_0 p_0) (((s_l1Split p_0 32).drop 1).length - 0) 0 (([] : List DIdx))) (fun r => r) (fun x76 =>
          bif s_GoodTable (⟨(((s_l1Split p_0 32).getD 0 d_Str).take 1), (s_l1Split ((((s_l1Split p_0 32).getD 0 d_Str).take ((IntKind.wrap .i64 ((((s_l1Split p_0 32).getD 0 d_Str).length : Int) - 1)).toNat)).drop 2) 44), x76⟩ : DTable) then
            bif (s_l24Text (⟨(((s_l1Split p_0 32).getD 0 d_Str).take 1), (s_l1Split ((((s_l1Split p_0 32).getD 0 d_Str).take ((IntKind.wrap .i64 ((((s_l1Split p_0 32).getD 0 d_Str).length : Int) - 1)).toNat)).drop 2) 44), x76⟩ : DTable)) == p_0 then
              ((⟨(((s_l1Split p_0 32).getD 0 d_Str).take 1), (s_l1Split ((((s_l1Split p_0 32).getD 0 d_Str).take ((IntKind.wrap .i64 ((((s_l1Split p_0 32).getD 0 d_Str).length : Int) - 1)).toNat)).drop 2) 44), x76⟩ : DTable), true)
            else
              ((⟨([] : Str), [], []⟩ : DTable), false)
          else
            ((⟨([] : Str), [], []⟩ : DTable), false))
      else
        ((⟨([] : Str), [], []⟩ : DTable), false)
    else
      ((⟨([] : Str), [], []⟩ : DTable), false)
def s_DrawColAt (p_code : List Int) : DTable × Str :=
  ((u_bentTable p_code (0, 0)).1, (u_of p_code ((u_bentTable p_code (0, 0)).2) ([[107], [97], [98], [99, 99], [122]] : List Str)).1)
def i_ColAt (p_t : DTable) (p_col : Str) : Int × Bool :=
  bif i_GoodTable p_t then
    bif decide ((g_slices_Index_string p_t.Cols p_col) < 0) then
      (0, false)
    else
      ((g_slices_Index_string p_t.Cols p_col), true)
  else
    (0, false)
def s_ColAt (p_t : DTable) (p_col : Str) : Int × Bool :=
  bif s_GoodTable p_t then
    bif decide ((s_l24At p_t.Cols p_col) < 0) then
      (0, false)
    else
      ((s_l24At p_t.Cols p_col), true)
  else
    (0, false)
def B_l_FnTables_0 (p_0 : List Int) (p_1 : List Int) (k174 : Nat) : Unit → Out Bool Unit
  | () => bif (i_NextTo (((i_WayTo ((s_DrawWayTo p_0).1) ((s_DrawWayTo p_0).2.1) ((s_DrawWayTo p_0).2.2)).1).getD ((IntKind.wrap .i64 ((k174 : Int) - 1)).toNat) d_Table) (((i_WayTo ((s_DrawWayTo p_0).1) ((s_DrawWayTo p_0).2.1) ((s_DrawWayTo p_0).2.2)).1).getD k174 d_Table)).2 then
      bif (i_NextTo (((i_WayTo ((s_DrawWayTo p_0).1) ((s_DrawWayTo p_0).2.1) ((s_DrawWayTo p_0).2.2)).1).getD ((IntKind.wrap .i64 ((k174 : Int) - 1)).toNat) d_Table) (((i_WayTo ((s_DrawWayTo p_0).1) ((s_DrawWayTo p_0).2.1) ((s_DrawWayTo p_0).2.2)).1).getD k174 d_Table)).1 then
        .cont ()
      else
        .ret false
    else
      .ret false
def l_FnTables (p_0 : List Int) (p_1 : List Int) : Bool :=
  bif decide (1048576 < (IntKind.wrap .i64 ((p_0.length : Int) + (p_1.length : Int)))) then
    true
  else
    bif ((i_WayTo ((s_DrawWayTo p_0).1) ((s_DrawWayTo p_0).2.1) ((s_DrawWayTo p_0).2.2)).2) == ((s_WayTo ((s_DrawWayTo p_0).1) ((s_DrawWayTo p_0).2.1) ((s_DrawWayTo p_0).2.2)).2) then
      bif l_qSameTs ((i_WayTo ((s_DrawWayTo p_0).1) ((s_DrawWayTo p_0).2.1) ((s_DrawWayTo p_0).2.2)).1) ((s_WayTo ((s_DrawWayTo p_0).1) ((s_DrawWayTo p_0).2.1) ((s_DrawWayTo p_0).2.2)).1) then
        bif ((i_SetStage ((s_DrawWayTo p_0).1) ((s_DrawWayTo p_0).2.1) ((s_DrawWayTo p_0).2.2)).2) == ((s_SetStage ((s_DrawWayTo p_0).1) ((s_DrawWayTo p_0).2.1) ((s_DrawWayTo p_0).2.2)).2) then
          bif l_qSameT ((i_SetStage ((s_DrawWayTo p_0).1) ((s_DrawWayTo p_0).2.1) ((s_DrawWayTo p_0).2.2)).1) ((s_SetStage ((s_DrawWayTo p_0).1) ((s_DrawWayTo p_0).2.1) ((s_DrawWayTo p_0).2.2)).1) then
            bif ((i_IdxAt ((s_DrawWayTo p_0).1) ((s_DrawWayTo p_0).2.1)).2) == ((s_IdxAt ((s_DrawWayTo p_0).1) ((s_DrawWayTo p_0).2.1)).2) then
              bif (((i_IdxAt ((s_DrawWayTo p_0).1) ((s_DrawWayTo p_0).2.1)).1.Name) == ((s_IdxAt ((s_DrawWayTo p_0).1) ((s_DrawWayTo p_0).2.1)).1.Name)) && ((decide (((i_IdxAt ((s_DrawWayTo p_0).1) ((s_DrawWayTo p_0).2.1)).1.Col) = ((s_IdxAt ((s_DrawWayTo p_0).1) ((s_DrawWayTo p_0).2.1)).1.Col))) && (decide (((i_IdxAt ((s_DrawWayTo p_0).1) ((s_DrawWayTo p_0).2.1)).1.Stage) = ((s_IdxAt ((s_DrawWayTo p_0).1) ((s_DrawWayTo p_0).2.1)).1.Stage)))) then
                bif (i_GoodTable ((s_DrawWayTo p_0).1)) == (s_GoodTable ((s_DrawWayTo p_0).1)) then
                  bif (i_WayTo ((s_DrawWayTo p_0).1) ((s_DrawWayTo p_0).2.1) ((s_DrawWayTo p_0).2.2)).2 then
                    bif decide ((((i_WayTo ((s_DrawWayTo p_0).1) ((s_DrawWayTo p_0).2.1) ((s_DrawWayTo p_0).2.2)).1).length : Int) = 0) then
                      false
                    else
                      bif decide (4 < (((i_WayTo ((s_DrawWayTo p_0).1) ((s_DrawWayTo p_0).2.1) ((s_DrawWayTo p_0).2.2)).1).length : Int)) then
                        false
                      else
                        bif l_qSameT (((i_WayTo ((s_DrawWayTo p_0).1) ((s_DrawWayTo p_0).2.1) ((s_DrawWayTo p_0).2.2)).1).getD 0 d_Table) ((s_DrawWayTo p_0).1) then
                          bif l_qSameT (((i_WayTo ((s_DrawWayTo p_0).1) ((s_DrawWayTo p_0).2.1) ((s_DrawWayTo p_0).2.2)).1).getD ((IntKind.wrap .i64 ((((i_WayTo ((s_DrawWayTo p_0).1) ((s_DrawWayTo p_0).2.1) ((s_DrawWayTo p_0).2.2)).1).length : Int) - 1)).toNat) d_Table) ((i_SetStage ((s_DrawWayTo p_0).1) ((s_DrawWayTo p_0).2.1) ((s_DrawWayTo p_0).2.2)).1) then
                            loopE (loopM (B_l_FnTables_0 p_0 p_1) (((i_WayTo ((s_DrawWayTo p_0).1) ((s_DrawWayTo p_0).2.1) ((s_DrawWayTo p_0).2.2)).1).length - 1) 1 ()) (fun r => r) (fun _ =>
                              bif (i_TableText ((s_DrawWayTo p_0).1)).2 then
                                bif (i_ReadTable ((i_TableText ((s_DrawWayTo p_0).1)).1)).2 then
                                  bif l_qSameT ((i_ReadTable ((i_TableText ((s_DrawWayTo p_0).1)).1)).1) ((s_DrawWayTo p_0).1) then
                                    bif ((i_NextTo ((s_DrawNextTo p_1).1) ((s_DrawNextTo p_1).2)).2) == ((s_NextTo ((s_DrawNextTo p_1).1) ((s_DrawNextTo p_1).2)).2) then
                                      bif ((i_NextTo ((s_DrawNextTo p_1).1) ((s_DrawNextTo p_1).2)).1) == ((s_NextTo ((s_DrawNextTo p_1).1) ((s_DrawNextTo p_1).2)).1) then
                                        bif ((i_ReadTable (s_DrawReadTable p_1)).2) == ((s_ReadTable (s_DrawReadTable p_1)).2) then
                                          bif l_qSameT ((i_ReadTable (s_DrawReadTable p_1)).1) ((s_ReadTable (s_DrawReadTable p_1)).1) then
                                            bif ((i_ColAt ((s_DrawColAt p_1).1) ((s_DrawColAt p_1).2)).2) == ((s_ColAt ((s_DrawColAt p_1).1) ((s_DrawColAt p_1).2)).2) then
                                              decide (((i_ColAt ((s_DrawColAt p_1).1) ((s_DrawColAt p_1).2)).1) = ((s_ColAt ((s_DrawColAt p_1).1) ((s_DrawColAt p_1).2)).1))
                                            else
                                              false
                                          else
                                            false
                                        else
                                          false
                                      else
                                        false
                                    else
                                      false
                                  else
                                    false
                                else
                                  false
                              else
                                false)
                          else
                            false
                        else
                          false
                  else
                    bif ((i_NextTo ((s_DrawNextTo p_1).1) ((s_DrawNextTo p_1).2)).2) == ((s_NextTo ((s_DrawNextTo p_1).1) ((s_DrawNextTo p_1).2)).2) then
                      bif ((i_NextTo ((s_DrawNextTo p_1).1) ((s_DrawNextTo p_1).2)).1) == ((s_NextTo ((s_DrawNextTo p_1).1) ((s_DrawNextTo p_1).2)).1) then
                        bif ((i_ReadTable (s_DrawReadTable p_1)).2) == ((s_ReadTable (s_DrawReadTable p_1)).2) then
                          bif l_qSameT ((i_ReadTable (s_DrawReadTable p_1)).1) ((s_ReadTable (s_DrawReadTable p_1)).1) then
                            bif ((i_ColAt ((s_DrawColAt p_1).1) ((s_DrawColAt p_1).2)).2) == ((s_ColAt ((s_DrawColAt p_1).1) ((s_DrawColAt p_1).2)).2) then
                              decide (((i_ColAt ((s_DrawColAt p_1).1) ((s_DrawColAt p_1).2)).1) = ((s_ColAt ((s_DrawColAt p_1).1) ((s_DrawColAt p_1).2)).1))
                            else
                              false
                          else
                            false
                        else
                          false
                      else
                        false
                    else
                      false
                else
                  false
              else
                false
            else
              false
          else
            false
        else
          false
      else
        false
    else
      false
def s_TableText (p_t : DTable) : Str × Bool :=
  bif s_GoodTable p_t then
    ((s_l24Text p_t), true)
  else
    (([] : Str), false)
end Go.Proofs.YtgfkmgjpannelaaGreatDoor
