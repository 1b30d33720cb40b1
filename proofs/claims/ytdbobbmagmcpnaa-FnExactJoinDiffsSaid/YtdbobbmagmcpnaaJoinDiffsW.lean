/- Join Diffs: what slices.Grow returns: the library's contract, laid at this program by its tool. -/
import Derived.Test.YtdbobbmagmcpnaaEG
import Derived.Test.YtdbobbmagmcpnaaProg
import Derived.Test.YtdbobbmagmcpnaaJoinDiffsT
import Derived.Test.YtdbobbmagmcpnaaJoinDiffsF
set_option linter.unusedVariables false
set_option linter.unusedSimpArgs false
namespace Go.Proofs.Ytdbobbmagmcpnaa
open Go.RowKit Go.X
open Go.Shelf
def grow_ren : Go.Shelf.Ren := ⟨fun | 4 => 153 | n => n, fun | 22 => 83 | 25 => 140 | n => n, fun n => n⟩
theorem grow_lays : Go.Proofs.Lays8.n4 Try.prog grow_ren := {
  mixed := by kernel_rfl
  f4 := ⟨ "slices.Grow[[]loop.example/g00850/impl.FeedItem,loop.example/g00850/impl.FeedItem]", by decide, Try.func153.trans (congrArg some (by kernel_rfl))⟩
  t0 := Try.underlying0
  a0 := Try.isAgg0
  z0 := Try.sizeOf0
  v0 := Try.zeroValue0
  t3 := Try.underlying3
  a3 := Try.isAgg3
  z3 := Try.sizeOf3
  v3 := Try.zeroValue3
  t4 := Try.underlying4
  a4 := Try.isAgg4
  z4 := Try.sizeOf4
  v4 := Try.zeroValue4
  t9 := Try.underlying9
  a9 := Try.isAgg9
  z9 := Try.sizeOf9
  v9 := Try.zeroValue9
  t20 := Try.underlying20
  a20 := Try.isAgg20
  z20 := Try.sizeOf20
  v20 := Try.zeroValue20
  t22 := Try.underlying83
  a22 := Try.isAgg83
  z22 := Try.sizeOf83
  v22 := Try.zeroValue83 }
theorem c_g_slices_Grow_FeedItem {w : World} (p_n : Int) (pre0 : (0 ≤ p_n ∧ p_n ≤ 274877906944)) : Cal Try.prog 153 #[.slice none 0 0, .int .i64 (p_n)] w fun v w' => ∃ A_1 c_1 lo_1 hi_1, v = .slice A_1 ((g_slices_Grow_FeedItem p_n).length) c_1 ∧ OwnL w' lo_1 hi_1 140 5 (RF e_FeedItem) A_1 ((g_slices_Grow_FeedItem p_n).length) c_1 (g_slices_Grow_FeedItem p_n) ∧ (w.heap.size ≤ lo_1 ∧ lo_1 ≤ hi_1 ∧ hi_1 ≤ w'.heap.size) ∧ Ex w w' := by
  exact grow_cal (ρ := grow_ren) (R := (RF e_FeedItem)) grow_lays Try.ty140 rfl (Nat.le_of_ble_eq_true rfl) (Nat.le_of_ble_eq_true rfl) p_n pre0 w
end Go.Proofs.Ytdbobbmagmcpnaa
