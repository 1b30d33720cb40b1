/- Read Table: the plain forms of the values, and plain models of the functions. -/
import Derived.Test.YtdknedcbonflgaaDoorE25
set_option linter.unusedVariables false
set_option linter.unusedSimpArgs false
namespace Go.Proofs.YtdknedcbonflgaaDoor
open Go.RowKit Go.X
structure DIdx where
  Name : Str
  Col : Int
  Stage : Int
def d_Idx : DIdx := ⟨[], 0, 0⟩
def wf_Idx (x : DIdx) : Prop := wfS x.Name ∧ wfI x.Col ∧ wfI x.Stage
def ok_Idx (x : DIdx) : Prop := okS x.Name
theorem ok_d_Idx : ok_Idx d_Idx := ok_d_Str
def e_Idx (x : DIdx) : List Value := [.string (bs x.Name), .int .i64 x.Col, .int .i64 x.Stage]
theorem good_Idx : Gd (RF e_Idx) := RF.good fun _ => rfl
structure DTable where
  Name : Str
  Cols : List Str
  Idxs : List DIdx
def d_Table : DTable := ⟨[], [], []⟩
def wf_Table (x : DTable) : Prop := wfS x.Name ∧ (wfL wfS) x.Cols ∧ (wfL wf_Idx) x.Idxs
def ok_Table (x : DTable) : Prop := okS x.Name ∧ (okL okS) x.Cols ∧ (okL ok_Idx) x.Idxs
theorem ok_d_Table : ok_Table d_Table := ⟨ok_d_Str, okL.nil _, okL.nil _⟩
def R_Table : Rel DTable := fun w S cs x => ∃ A1 c1 A2 c2, cs = [.string (bs x.Name), .slice A1 x.Cols.length c1, .slice A2 x.Idxs.length c2] ∧ RdS w S (RF e_Str) 1 A1 x.Cols.length c1 x.Cols ∧ RdS w S (RF e_Idx) 3 A2 x.Idxs.length c2 x.Idxs
def RO_Table : RelO DTable := fun w l h cs x => ∃ A1 c1 lo1 hi1 A2 c2 lo2 hi2, cs = [.string (bs x.Name), .slice A1 x.Cols.length c1, .slice A2 x.Idxs.length c2] ∧ OwnL w lo1 hi1 9 1 (RF e_Str) A1 x.Cols.length c1 x.Cols ∧ OwnL w lo2 hi2 33 3 (RF e_Idx) A2 x.Idxs.length c2 x.Idxs ∧ (l ≤ lo1 ∧ lo1 ≤ hi1 ∧ hi1 ≤ h) ∧ (l ≤ lo2 ∧ lo2 ≤ hi2 ∧ hi2 ≤ h) ∧ (hi1 ≤ lo2 ∨ hi2 ≤ lo1)
theorem good_Table : Gd R_Table := ⟨fun ⟨A1, c1, A2, c2, he, h0, h1⟩ hk => ⟨A1, c1, A2, c2, he, RdS.keep good_Str h0 hk, RdS.keep good_Idx h1 hk⟩, fun ⟨A1, c1, A2, c2, he, h0, h1⟩ hw => ⟨A1, c1, A2, c2, he, RdS.wide good_Str h0 hw, RdS.wide good_Idx h1 hw⟩, fun ⟨A1, c1, A2, c2, he, h0, h1⟩ => by rw [he]; rfl⟩
theorem goodO_Table : GdO RO_Table R_Table := ⟨fun ⟨A1, c1, lo1, hi1, A2, c2, lo2, hi2, he, h1, h2, r0, r1, r2⟩ hk => ⟨A1, c1, lo1, hi1, A2, c2, lo2, hi2, he, OwnL.keep good_Str h1 (fun b b1 b2 b3 => hk b (by omega) (by omega) b3), OwnL.keep good_Idx h2 (fun b b1 b2 b3 => hk b (by omega) (by omega) b3), r0, r1, r2⟩, fun ⟨A1, c1, lo1, hi1, A2, c2, lo2, hi2, he, h1, h2, r0, r1, r2⟩ => by rw [he]; rfl, fun ⟨A1, c1, lo1, hi1, A2, c2, lo2, hi2, he, h1, h2, r0, r1, r2⟩ => ⟨A1, c1, A2, c2, he, RdS.wide good_Str (OwnL.rdI good_Str h1) (fun b hb _ => ⟨by have := hb.1; omega, by have := hb.2; omega⟩), RdS.wide good_Idx (OwnL.rdI good_Idx h2) (fun b hb _ => ⟨by have := hb.1; omega, by have := hb.2; omega⟩)⟩⟩
theorem mkO_Table {w : World} {l h : Nat} {z0 : Str} {lo1 hi1 n1 c1 : Nat} {A1 : Option Addr} {y1 : List Str} {lo2 hi2 n2 c2 : Nat} {A2 : Option Addr} {y2 : List DIdx} (h1 : OwnL w lo1 hi1 9 1 (RF e_Str) A1 n1 c1 y1) (h2 : OwnL w lo2 hi2 33 3 (RF e_Idx) A2 n2 c2 y2) (r0 : (l ≤ lo1 ∧ lo1 ≤ hi1 ∧ hi1 ≤ h)) (r1 : (l ≤ lo2 ∧ lo2 ≤ hi2 ∧ hi2 ≤ h)) (r2 : (hi1 ≤ lo2 ∨ hi2 ≤ lo1)) : RO_Table w l h [.string (bs z0), .slice A1 n1 c1, .slice A2 n2 c2] ⟨z0, y1, y2⟩ := by
  obtain rfl := h1.1; obtain rfl := h2.1
  exact ⟨A1, c1, lo1, hi1, A2, c2, lo2, hi2, rfl, h1, h2, r0, r1, r2⟩
structure DBoundsError where
  x : Int
  y : Int
  signed : Bool
  code : Int
def d_BoundsError : DBoundsError := ⟨0, 0, false, 0⟩
def wf_BoundsError (x : DBoundsError) : Prop := wfI x.x ∧ wfI x.y ∧ wfI x.code
def e_BoundsError (x : DBoundsError) : List Value := [.int .i64 x.x, .int .i64 x.y, .bool x.signed, .int .u8 x.code]
theorem good_BoundsError : Gd (RF e_BoundsError) := RF.good fun _ => rfl
structure DErrorAddressString where
  msg : Str
  addr : Int
def d_ErrorAddressString : DErrorAddressString := ⟨[], 0⟩
def wf_ErrorAddressString (x : DErrorAddressString) : Prop := wfS x.msg ∧ wfI x.addr
def ok_ErrorAddressString (x : DErrorAddressString) : Prop := okS x.msg
theorem ok_d_ErrorAddressString : ok_ErrorAddressString d_ErrorAddressString := ok_d_Str
def e_ErrorAddressString (x : DErrorAddressString) : List Value := [.string (bs x.msg), .int .u64 x.addr]
theorem good_ErrorAddressString : Gd (RF e_ErrorAddressString) := RF.good fun _ => rfl
structure DAcceptRange where
  lo : Int
  hi : Int
def d_AcceptRange : DAcceptRange := ⟨0, 0⟩
def wf_AcceptRange (x : DAcceptRange) : Prop := wfI x.lo ∧ wfI x.hi
def e_AcceptRange (x : DAcceptRange) : List Value := [.int .u8 x.lo, .int .u8 x.hi]
theorem good_AcceptRange : Gd (RF e_AcceptRange) := RF.good fun _ => rfl
structure DErrorString where
  s : Str
def d_ErrorString : DErrorString := ⟨[]⟩
def wf_ErrorString (x : DErrorString) : Prop := wfS x.s
def ok_ErrorString (x : DErrorString) : Prop := okS x.s
theorem ok_d_ErrorString : ok_ErrorString d_ErrorString := ok_d_Str
def e_ErrorString (x : DErrorString) : List Value := [.string (bs x.s)]
theorem good_ErrorString : Gd (RF e_ErrorString) := RF.good fun _ => rfl
def B_s_l1Split_0 (p_s : Str) (p_b : Int) (k2 : Nat) : (List Str) × Int → Out (List Str) ((List Str) × Int)
  | (x20, x24) => bif decide (((p_s.getD k2 0).toNat : Int) = p_b) then
      .cont ((x20 ++ ([((p_s.take k2).drop ((x24).toNat))] : List Str)), ((k2 + 1 : Nat) : Int))
    else
      .cont (x20, x24)
def s_l1Split (p_s : Str) (p_b : Int) : List Str :=
  loopE (loopM (B_s_l1Split_0 p_s p_b) (p_s.length - 0) 0 (([] : List Str), 0)) (fun r => r) (fun (x20, x24) =>
    (x20 ++ ([(p_s.drop ((x24).toNat))] : List Str)))
def B_s_l24At_0 (p_l : List Str) (p_s : Str) (k4 : Nat) : Unit → Out Int Unit
  | () => bif (p_l.getD k4 d_Str) == p_s then
      .ret (k4 : Int)
    else
      .cont ()
def s_l24At (p_l : List Str) (p_s : Str) : Int :=
  loopE (loopM (B_s_l24At_0 p_l p_s) (p_l.length - 0) 0 ()) (fun r => r) (fun _ =>
    -1)
def s_l24Read (p_t : DTable) (p_word : Str) : DIdx × Bool :=
  bif decide (((s_l1Split p_word 47).length : Int) = 3) then
    bif decide ((((s_l1Split p_word 47).getD 2 d_Str).length : Int) = 1) then
      ((⟨((s_l1Split p_word 47).getD 0 d_Str), (s_l24At p_t.Cols ((s_l1Split p_word 47).getD 1 d_Str)), IntKind.wrap .i64 ((IntKind.wrap .i64 ((((s_l1Split p_word 47).getD 2 d_Str).getD 0 0).toNat : Int)) - 48)⟩ : DIdx), true)
    else
      ((⟨([] : Str), 0, 0⟩ : DIdx), false)
  else
    ((⟨([] : Str), 0, 0⟩ : DIdx), false)
def B_s_l24Letters_0 (p_s : Str) (p_most : Int) (k2 : Nat) : Unit → Out Bool Unit
  | () => bif decide (((p_s.getD k2 0).toNat : Int) < 97) then
      .ret false
    else
      bif decide (122 < ((p_s.getD k2 0).toNat : Int)) then
        .ret false
      else
        .cont ()
def s_l24Letters (p_s : Str) (p_most : Int) : Bool :=
  loopE (loopM (B_s_l24Letters_0 p_s p_most) (p_s.length - 0) 0 ()) (fun r => r) (fun _ =>
    bif decide (1 ≤ (p_s.length : Int)) then
      decide ((p_s.length : Int) ≤ p_most)
    else
      false)
def s_l1In (p_n : Int) (p_lo : Int) (p_hi : Int) : Bool :=
  bif decide (p_lo ≤ p_n) then
    decide (p_n ≤ p_hi)
  else
    false
def B_s_l24Cols_0 (p_l : List Str) (k3 : Nat) : Unit → Out Bool Unit
  | () => bif s_l24Letters (p_l.getD k3 d_Str) 3 then
      bif decide (0 ≤ (s_l24At (p_l.take k3) (p_l.getD k3 d_Str))) then
        .ret false
      else
        .cont ()
    else
      .ret false
def s_l24Cols (p_l : List Str) : Bool :=
  loopE (loopM (B_s_l24Cols_0 p_l) (p_l.length - 0) 0 ()) (fun r => r) (fun _ =>
    (s_l1In (p_l.length : Int) 2 4))
def B_s_GoodTable_0 (p_0 : DTable) (k19 : Nat) : Unit → Out Bool Unit
  | () => bif s_l24Letters ((p_0.Idxs.getD k19 d_Idx).Name) 1 then
      bif s_l1In ((p_0.Idxs.getD k19 d_Idx).Col) 1 (IntKind.wrap .i64 ((p_0.Cols.length : Int) - 1)) then
        bif s_l1In ((p_0.Idxs.getD k19 d_Idx).Stage) 0 3 then
          bif decide (0 < (k19 : Int)) then
            bif sLt ((p_0.Idxs.getD ((IntKind.wrap .i64 ((k19 : Int) - 1)).toNat) d_Idx).Name) ((p_0.Idxs.getD k19 d_Idx).Name) then
              .cont ()
            else
              .ret false
          else
            .cont ()
        else
          .ret false
      else
        .ret false
    else
      .ret false
def s_GoodTable (p_0 : DTable) : Bool :=
  bif s_l24Letters p_0.Name 1 then
    bif s_l24Cols p_0.Cols then
      bif decide (3 < (p_0.Idxs.length : Int)) then
        false
      else
        loopE (loopM (B_s_GoodTable_0 p_0) (p_0.Idxs.length - 0) 0 ()) (fun r => r) (fun _ =>
          true)
    else
      false
  else
    false
def B_s_l24Join_0 (p_l : List Str) (p_by : Str) (k4 : Nat) : Str → Out Str Str
  | (x12) => bif decide (0 < (k4 : Int)) then
      .cont ((x12 ++ p_by) ++ (p_l.getD k4 d_Str))
    else
      .cont (x12 ++ (p_l.getD k4 d_Str))
def s_l24Join (p_l : List Str) (p_by : Str) : Str :=
  loopE (loopM (B_s_l24Join_0 p_l p_by) (p_l.length - 0) 0 (([] : Str))) (fun r => r) (fun x12 =>
    x12)
def s_l1Num (p_n : Int) : Str :=
  toS ([IntKind.wrap .u8 (IntKind.wrap .i64 (48 + p_n))] : List Int)
def B_s_l24Text_0 (p_t : DTable) (k14 : Nat) : Str → Out Str Str
  | (x63) => .cont (x63 ++ (((((([32] : Str) ++ ((p_t.Idxs.getD k14 d_Idx).Name)) ++ ([47] : Str)) ++ (p_t.Cols.getD (((p_t.Idxs.getD k14 d_Idx).Col).toNat) d_Str)) ++ ([47] : Str)) ++ (s_l1Num ((p_t.Idxs.getD k14 d_Idx).Stage))))
def s_l24Text (p_t : DTable) : Str :=
  loopE (loopM (B_s_l24Text_0 p_t) (p_t.Idxs.length - 0) 0 (((p_t.Name ++ ([40] : Str)) ++ (s_l24Join p_t.Cols ([44] : Str))) ++ ([41] : Str))) (fun r => r) (fun x63 =>
    x63)
def B_s_ReadTable_0 (p_0 : Str) (k39 : Nat) : (List DIdx) → Out (DTable × Bool) (List DIdx)
  | (x76) => bif (s_l24Read (⟨(((s_l1Split p_0 32).getD 0 d_Str).take 1), (s_l1Split ((((s_l1Split p_0 32).getD 0 d_Str).take ((IntKind.wrap .i64 ((((s_l1Split p_0 32).getD 0 d_Str).length : Int) - 1)).toNat)).drop 2) 44), x76⟩ : DTable) (((s_l1Split p_0 32).drop 1).getD k39 d_Str)).2 then
      .cont ((x76 ++ ([(s_l24Read (⟨(((s_l1Split p_0 32).getD 0 d_Str).take 1), (s_l1Split ((((s_l1Split p_0 32).getD 0 d_Str).take ((IntKind.wrap .i64 ((((s_l1Split p_0 32).getD 0 d_Str).length : Int) - 1)).toNat)).drop 2) 44), x76⟩ : DTable) (((s_l1Split p_0 32).drop 1).getD k39 d_Str)).1] : List DIdx)))
    else
      .ret ((⟨([] : Str), [], []⟩ : DTable), false)
def s_ReadTable (p_0 : Str) : DTable × Bool :=
  bif decide ((((s_l1Split p_0 32).getD 0 d_Str).length : Int) < 3) then
    ((⟨([] : Str), [], []⟩ : DTable), false)
  else
    bif decide (((((s_l1Split p_0 32).getD 0 d_Str).getD 1 0).toNat : Int) = 40) then
      bif decide (((((s_l1Split p_0 32).getD 0 d_Str).getD (IntKind.wrap .i64 ((((s_l1Split p_0 32).getD 0 d_Str).length : Int) - 1)).toNat 0).toNat : Int) = 41) then
        loopE (loopM (B_s_ReadTable_0 p_0) (((s_l1Split p_0 32).drop 1).length - 0) 0 (([] : List DIdx))) (fun r => r) (fun x76 =>
          bif s_GoodTable (⟨(((s_l1Split p_0 32).getD 0 d_Str).take 1), (s_l1Split ((((s_l1Split p_0 32).getD 0 d_Str).take ((IntKind.wrap .i64 ((((s_l1Split p_0 32).getD 0 d_Str).length : Int) - 1)).toNat)).drop 2) 44), x76⟩ : DTable) then
            bif (s_l24Text (⟨(((s_l1Split p_0 32).getD 0 d_Str).take 1), (s_l1Split ((((s_l1Split p_0 32).getD 0 d_Str).take ((IntKind.wrap .i64 ((((s_l1Split p_0 32).getD 0 d_Str).length : Int) - 1)).toNat)).drop 2) 44), x76⟩ : DTable)) == p_0 then
              ((⟨(((s_l1Split p_0 32).getD 0 d_Str).take 1), (s_l1Split ((((s_l1Split p_0 32).getD 0 d_Str).take ((IntKind.wrap .i64 ((((s_l1Split p_0 32).getD 0 d_Str).length : Int) - 1)).toNat)).drop 2) 44), x76⟩ : DTable), true)
            else
              ((⟨([] : Str), [], []⟩ : DTable), false)
          else
            ((⟨([] : Str), [], []⟩ : DTable), false))
      else
        ((⟨([] : Str), [], []⟩ : DTable), false)
    else
      ((⟨([] : Str), [], []⟩ : DTable), false)
def g_internal_stringslite_IndexByte (p_s : Str) (p_c : Int) : Int :=
  idxB p_s p_c
def g_internal_bytealg_Cutover (p_n : Int) : Int :=
  IntKind.wrap .i64 (Int.tdiv (IntKind.wrap .i64 (p_n + 16)) 8)
def g_internal_stringslite_Index (p_0 : Str) (p_1 : Str) : Int :=
  bif p_1 == p_0 then
    0
  else
    (g_internal_stringslite_IndexByte p_0 ((p_1.getD 0 0).toNat : Int))
def g_internal_stringslite_Cut (p_s : Str) (p_sep : Str) : Str × Str × Bool :=
  bif decide (0 ≤ (g_internal_stringslite_Index p_s p_sep)) then
    ((p_s.take (((g_internal_stringslite_Index p_s p_sep)).toNat)), (p_s.drop ((IntKind.wrap .i64 ((g_internal_stringslite_Index p_s p_sep) + (p_sep.length : Int))).toNat)), true)
  else
    (p_s, ([] : Str), false)
def g_strings_Cut (p_s : Str) (p_sep : Str) : Str × Str × Bool :=
  ((g_internal_stringslite_Cut p_s p_sep).1, (g_internal_stringslite_Cut p_s p_sep).2.1, (g_internal_stringslite_Cut p_s p_sep).2.2)
def g_strings_Split (p_s : Str) (p_sep : Str) : List Str :=
  sp (p_sep.headD 0) p_s
def g_strconv_Itoa (p_i : Int) : Str := [(48 + p_i).toNat.toUInt8]
def i_within (p_n : Int) (p_low : Int) (p_high : Int) : Bool :=
  bif decide (p_low ≤ p_n) then
    decide (p_n ≤ p_high)
  else
    false
def i_readInt (p_s : Str) (p_low : Int) (p_high : Int) : Int × Bool := match p_s with
  | [c] => bif (decide (48 ≤ c.toNat) && decide (c.toNat ≤ 57) && i_within ((c.toNat : Int) - 48) p_low p_high) then ((c.toNat : Int) - 48, true) else (0, false)
  | _ => (0, false)
def B_g_slices_Index_string_0 (p_s : List Str) (p_v : Str) (k4 : Nat) : Unit → Out Int Unit
  | () => bif p_v == (p_s.getD k4 d_Str) then
      .ret (k4 : Int)
    else
      .cont ()
def g_slices_Index_string (p_s : List Str) (p_v : Str) : Int :=
  loopE (loopM (B_g_slices_Index_string_0 p_s p_v) (p_s.length - 0) 0 ()) (fun r => r) (fun _ =>
    -1)
def B_i_areLetters_0 (p_s : Str) (p_most : Int) (k2 : Nat) : Unit → Out Bool Unit
  | () => bif decide (((p_s.getD k2 0).toNat : Int) < 97) then
      .ret false
    else
      bif decide (122 < ((p_s.getD k2 0).toNat : Int)) then
        .ret false
      else
        .cont ()
def i_areLetters (p_s : Str) (p_most : Int) : Bool :=
  loopE (loopM (B_i_areLetters_0 p_s p_most) (p_s.length - 0) 0 ()) (fun r => r) (fun _ =>
    (i_within (p_s.length : Int) 1 p_most))
def g_slices_Contains_string (p_s : List Str) (p_v : Str) : Bool :=
  decide (0 ≤ (g_slices_Index_string p_s p_v))
def i_isStage (p_stage : Int) : Bool :=
  (i_within p_stage 0 3)
def B_i_GoodTable_0 (p_0 : DTable) (k19 : Nat) : Unit → Out Bool Unit
  | () => bif i_areLetters (p_0.Cols.getD k19 d_Str) 3 then
      bif g_slices_Contains_string (p_0.Cols.take k19) (p_0.Cols.getD k19 d_Str) then
        .ret false
      else
        .cont ()
    else
      .ret false
def B_i_GoodTable_1 (p_0 : DTable) (k35 : Nat) : Unit → Out Bool Unit
  | () => bif i_areLetters ((p_0.Idxs.getD k35 d_Idx).Name) 1 then
      bif i_within ((p_0.Idxs.getD k35 d_Idx).Col) 1 (IntKind.wrap .i64 ((p_0.Cols.length : Int) - 1)) then
        bif i_isStage ((p_0.Idxs.getD k35 d_Idx).Stage) then
          bif decide (0 < (k35 : Int)) then
            bif sLe ((p_0.Idxs.getD k35 d_Idx).Name) ((p_0.Idxs.getD ((IntKind.wrap .i64 ((k35 : Int) - 1)).toNat) d_Idx).Name) then
              .ret false
            else
              .cont ()
          else
            .cont ()
        else
          .ret false
      else
        .ret false
    else
      .ret false
def i_GoodTable (p_0 : DTable) : Bool :=
  bif i_areLetters p_0.Name 1 then
    bif i_within (p_0.Cols.length : Int) 2 4 then
      bif decide (3 < (p_0.Idxs.length : Int)) then
        false
      else
        loopE (loopM (B_i_GoodTable_0 p_0) (p_0.Cols.length - 0) 0 ()) (fun r => r) (fun _ =>
          loopE (loopM (B_i_GoodTable_1 p_0) (p_0.Idxs.length - 0) 0 ()) (fun r => r) (fun _ =>
            true))
    else
      false
  else
    false
def g_strings_Join (p_elems : List Str) (p_sep : Str) : Str :=
  p_sep.intercalate p_elems
def B_i_tableText_0 (p_t : DTable) (k15 : Nat) : Str → Out Str Str
  | (x64) => .cont (x64 ++ (((((([32] : Str) ++ ((p_t.Idxs.getD k15 d_Idx).Name)) ++ ([47] : Str)) ++ (p_t.Cols.getD (((p_t.Idxs.getD k15 d_Idx).Col).toNat) d_Str)) ++ ([47] : Str)) ++ (g_strconv_Itoa ((p_t.Idxs.getD k15 d_Idx).Stage))))
def i_tableText (p_t : DTable) : Str :=
  loopE (loopM (B_i_tableText_0 p_t) (p_t.Idxs.length - 0) 0 (((p_t.Name ++ ([40] : Str)) ++ (g_strings_Join p_t.Cols ([44] : Str))) ++ ([41] : Str))) (fun r => r) (fun x64 =>
    x64)
def B_i_ReadTable_0 (p_0 : Str) (k41 : Nat) : Bool × (List DIdx) → Out (DTable × Bool) (Bool × (List DIdx))
  | (x109, x110) => bif decide ((k41 : Int) = 0) then
      .cont (x109, x110)
    else
      bif decide (((g_strings_Split ((g_strings_Split ((g_strings_Cut p_0 ([41] : Str)).2.1) ([32] : Str)).getD k41 d_Str) ([47] : Str)).length : Int) = 3) then
        bif x109 then
          .cont ((i_readInt ((g_strings_Split ((g_strings_Split ((g_strings_Cut p_0 ([41] : Str)).2.1) ([32] : Str)).getD k41 d_Str) ([47] : Str)).getD 2 d_Str) 0 3).2, (x110 ++ ([(⟨((g_strings_Split ((g_strings_Split ((g_strings_Cut p_0 ([41] : Str)).2.1) ([32] : Str)).getD k41 d_Str) ([47] : Str)).getD 0 d_Str), (g_slices_Index_string (g_strings_Split ((g_strings_Cut ((g_strings_Cut p_0 ([41] : Str)).1) ([40] : Str)).2.1) ([44] : Str)) ((g_strings_Split ((g_strings_Split ((g_strings_Cut p_0 ([41] : Str)).2.1) ([32] : Str)).getD k41 d_Str) ([47] : Str)).getD 1 d_Str)), (i_readInt ((g_strings_Split ((g_strings_Split ((g_strings_Cut p_0 ([41] : Str)).2.1) ([32] : Str)).getD k41 d_Str) ([47] : Str)).getD 2 d_Str) 0 3).1⟩ : DIdx)] : List DIdx)))
        else
          .cont (false, (x110 ++ ([(⟨((g_strings_Split ((g_strings_Split ((g_strings_Cut p_0 ([41] : Str)).2.1) ([32] : Str)).getD k41 d_Str) ([47] : Str)).getD 0 d_Str), (g_slices_Index_string (g_strings_Split ((g_strings_Cut ((g_strings_Cut p_0 ([41] : Str)).1) ([40] : Str)).2.1) ([44] : Str)) ((g_strings_Split ((g_strings_Split ((g_strings_Cut p_0 ([41] : Str)).2.1) ([32] : Str)).getD k41 d_Str) ([47] : Str)).getD 1 d_Str)), (i_readInt ((g_strings_Split ((g_strings_Split ((g_strings_Cut p_0 ([41] : Str)).2.1) ([32] : Str)).getD k41 d_Str) ([47] : Str)).getD 2 d_Str) 0 3).1⟩ : DIdx)] : List DIdx)))
      else
        .ret ((⟨([] : Str), [], []⟩ : DTable), false)
def i_ReadTable (p_0 : Str) : DTable × Bool :=
  loopE (loopM (B_i_ReadTable_0 p_0) ((g_strings_Split ((g_strings_Cut p_0 ([41] : Str)).2.1) ([32] : Str)).length - 0) 0 ((g_strings_Cut p_0 ([41] : Str)).2.2, ([] : List DIdx))) (fun r => r) (fun (x109, x110) =>
    bif x109 then
      bif (g_strings_Cut ((g_strings_Cut p_0 ([41] : Str)).1) ([40] : Str)).2.2 then
        bif i_GoodTable (⟨(g_strings_Cut ((g_strings_Cut p_0 ([41] : Str)).1) ([40] : Str)).1, (g_strings_Split ((g_strings_Cut ((g_strings_Cut p_0 ([41] : Str)).1) ([40] : Str)).2.1) ([44] : Str)), x110⟩ : DTable) then
          bif (i_tableText (⟨(g_strings_Cut ((g_strings_Cut p_0 ([41] : Str)).1) ([40] : Str)).1, (g_strings_Split ((g_strings_Cut ((g_strings_Cut p_0 ([41] : Str)).1) ([40] : Str)).2.1) ([44] : Str)), x110⟩ : DTable)) == p_0 then
            ((⟨(g_strings_Cut ((g_strings_Cut p_0 ([41] : Str)).1) ([40] : Str)).1, (g_strings_Split ((g_strings_Cut ((g_strings_Cut p_0 ([41] : Str)).1) ([40] : Str)).2.1) ([44] : Str)), x110⟩ : DTable), true)
          else
            ((⟨([] : Str), [], []⟩ : DTable), false)
        else
          ((⟨([] : Str), [], []⟩ : DTable), false)
      else
        ((⟨([] : Str), [], []⟩ : DTable), false)
    else
      ((⟨([] : Str), [], []⟩ : DTable), false))
def B_l_eqStringS_0 (p_a : List Str) (p_b : List Str) (k4 : Nat) : Unit → Out Bool Unit
  | () => bif (p_a.getD k4 d_Str) == (p_b.getD k4 d_Str) then
      .cont ()
    else
      .ret false
def l_eqStringS (p_a : List Str) (p_b : List Str) : Bool :=
  bif decide ((p_a.length : Int) = (p_b.length : Int)) then
    loopE (loopM (B_l_eqStringS_0 p_a p_b) (p_a.length - 0) 0 ()) (fun r => r) (fun _ =>
      true)
  else
    false
def l_eqIdx (p_a : DIdx) (p_b : DIdx) : Bool :=
  bif p_a.Name == p_b.Name then
    bif decide (p_a.Col = p_b.Col) then
      bif decide (p_a.Stage = p_b.Stage) then
        true
      else
        false
    else
      false
  else
    false
def B_l_eqIdxS_0 (p_a : List DIdx) (p_b : List DIdx) (k4 : Nat) : Unit → Out Bool Unit
  | () => bif l_eqIdx (p_a.getD k4 d_Idx) (p_b.getD k4 d_Idx) then
      .cont ()
    else
      .ret false
def l_eqIdxS (p_a : List DIdx) (p_b : List DIdx) : Bool :=
  bif decide ((p_a.length : Int) = (p_b.length : Int)) then
    loopE (loopM (B_l_eqIdxS_0 p_a p_b) (p_a.length - 0) 0 ()) (fun r => r) (fun _ =>
      true)
  else
    false
def l_eqTable (p_a : DTable) (p_b : DTable) : Bool :=
  bif p_a.Name == p_b.Name then
    bif l_eqStringS p_a.Cols p_b.Cols then
      bif l_eqIdxS p_a.Idxs p_b.Idxs then
        true
      else
        false
    else
      false
  else
    false
def B_l_markText_0 (p_k : Int) : Int × Str → Out Str (Int × Str)
  | (x15, x16) => bif decide (0 < x15) then
      .cont (IntKind.wrap .i64 (Int.tdiv x15 10), (toS ([IntKind.wrap .u8 (IntKind.wrap .i64 (48 + (Int.tmod x15 10)))] : List Int)) ++ x16)
    else
      .brk (x15, x16)
def l_markText (p_k : Int) : Str :=
  bif decide (p_k ≤ 0) then
    ([109, 48] : Str)
  else
    loopE (loopW (B_l_markText_0 p_k) ((((p_k).toNat + 1) / 2) + 1) (p_k, ([] : Str))) (fun r => r) (fun (x15, x16) =>
      ([109] : Str) ++ x16)
def B_l_markStringS_0 (p_a : List Str) (p_k : Int) (k3 : Nat) : Int × (List Str) → Out (Int × (List Str)) (Int × (List Str))
  | (x14, x15) => .cont (IntKind.wrap .i64 (x14 + 1), (x15.set k3 (l_markText x14)))
def l_markStringS (p_a : List Str) (p_k : Int) : Int × (List Str) :=
  loopE (loopM (B_l_markStringS_0 p_a p_k) (p_a.length - 0) 0 (p_k, p_a)) (fun r => r) (fun (x14, x15) =>
    (x14, x15))
def B_l_markIdxS_0 (p_a : List DIdx) (p_k : Int) (k3 : Nat) : Int × (List DIdx) → Out (Int × (List DIdx)) (Int × (List DIdx))
  | (x26, x27) => .cont (IntKind.wrap .i64 ((IntKind.wrap .i64 ((IntKind.wrap .i64 (x26 + 1)) + 1)) + 1), (x27.set k3 (⟨(l_markText x26), IntKind.wrap .i64 (x26 + 1), IntKind.wrap .i64 ((IntKind.wrap .i64 (x26 + 1)) + 1)⟩ : DIdx)))
def l_markIdxS (p_a : List DIdx) (p_k : Int) : Int × (List DIdx) :=
  loopE (loopM (B_l_markIdxS_0 p_a p_k) (p_a.length - 0) 0 (p_k, p_a)) (fun r => r) (fun (x26, x27) =>
    (x26, x27))
def l_markTable (p_a : DTable) (p_k : Int) : Int × DTable :=
  ((l_markIdxS p_a.Idxs ((l_markStringS p_a.Cols p_k).1)).1, (⟨p_a.Name, (l_markStringS p_a.Cols p_k).2, (l_markIdxS p_a.Idxs ((l_markStringS p_a.Cols p_k).1)).2⟩ : DTable))
def B_l_heldStringS_0 (p_a : List Str) (p_k : Int) (k2 : Nat) : Int → Out Int Int
  | (x3) => bif (p_a.getD k2 d_Str) == (l_markText x3) then
      .cont (IntKind.wrap .i64 (x3 + 1))
    else
      .ret (-1)
def l_heldStringS (p_a : List Str) (p_k : Int) : Int :=
  loopE (loopM (B_l_heldStringS_0 p_a p_k) (p_a.length - 0) 0 (p_k)) (fun r => r) (fun x3 =>
    x3)
def B_l_heldIdxS_0 (p_a : List DIdx) (p_k : Int) (k2 : Nat) : Int → Out Int Int
  | (x3) => bif ((p_a.getD k2 d_Idx).Name) == (l_markText x3) then
      bif decide (((p_a.getD k2 d_Idx).Col) = (IntKind.wrap .i64 (x3 + 1))) then
        bif decide (((p_a.getD k2 d_Idx).Stage) = (IntKind.wrap .i64 ((IntKind.wrap .i64 (x3 + 1)) + 1))) then
          .cont (IntKind.wrap .i64 ((IntKind.wrap .i64 ((IntKind.wrap .i64 (x3 + 1)) + 1)) + 1))
        else
          .ret (-1)
      else
        .ret (-1)
    else
      .ret (-1)
def l_heldIdxS (p_a : List DIdx) (p_k : Int) : Int :=
  loopE (loopM (B_l_heldIdxS_0 p_a p_k) (p_a.length - 0) 0 (p_k)) (fun r => r) (fun x3 =>
    x3)
def l_heldTable (p_a : DTable) (p_k : Int) : Int :=
  bif decide ((l_heldStringS p_a.Cols p_k) < 0) then
    -1
  else
    bif decide ((l_heldIdxS p_a.Idxs (l_heldStringS p_a.Cols p_k)) < 0) then
      -1
    else
      (l_heldIdxS p_a.Idxs (l_heldStringS p_a.Cols p_k))
def l_FnExactReadTable (p_0 : Str) : Bool :=
  bif decide (1048576 < (p_0.length : Int)) then
    true
  else
    bif l_eqTable ((i_ReadTable p_0).1) ((s_ReadTable p_0).1) then
      bif ((i_ReadTable p_0).2) == ((s_ReadTable p_0).2) then
        bif decide ((l_heldTable (⟨(i_ReadTable p_0).1.Name, (l_markTable ((i_ReadTable p_0).1) 1).2.Cols, (l_markTable ((i_ReadTable p_0).1) 1).2.Idxs⟩ : DTable) 1) < 0) then
          false
        else
          bif decide ((l_heldTable (⟨(i_ReadTable p_0).1.Name, (l_markTable ((i_ReadTable p_0).1) 1).2.Cols, (l_markTable ((i_ReadTable p_0).1) 1).2.Idxs⟩ : DTable) 1) = ((l_markTable ((i_ReadTable p_0).1) 1).1)) then
            true
          else
            false
      else
        false
    else
      false

end Go.Proofs.YtdknedcbonflgaaDoor
