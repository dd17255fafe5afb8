/- The contracts of package hlc's functions and of the reference's, over the seat's translation. No conditions. -/
import Derived.Test.YtikeeekjelampaaRows
import Derived.WalkKit
import Derived.WalkSpells
import Derived.Deep.QuietTactic
import Derived.BigQuiet
import Derived.StillTailTactics
namespace Go.Proofs.Ytikeeekjelampaa
open Go.RowKit

def mx (x y : Int) : Int := if x < y then y else x
def mn (x y : Int) : Int := if y < x then y else x
theorem bmax2_int (k k' : IntKind) (x y : Int) : Builtin.max2 (.int k x) (.int k' y) = pure (.int k (mx x y)) := by simp only [Builtin.max2, gt_iff_lt, mx]
theorem bmin2_int (k k' : IntKind) (x y : Int) : Builtin.min2 (.int k x) (.int k' y) = pure (.int k (mn x y)) := by simp only [Builtin.min2, mn]
theorem bmax_two (ats : Array TypeId) (ty : TypeId) (a b : Value) : Builtin.max_ ats ty #[a, b] = (Builtin.max2 a b >>= fun s => pure s) := by simp only [Builtin.max_, List.foldlM_cons, List.foldlM_nil]
theorem bmin_two (ats : Array TypeId) (ty : TypeId) (a b : Value) : Builtin.min_ ats ty #[a, b] = (Builtin.min2 a b >>= fun s => pure s) := by simp only [Builtin.min_, List.foldlM_cons, List.foldlM_nil]
attribute [local go_sem] bmax2_int bmin2_int bmax_two bmin_two

/-- where a clock stands behind New(at). -/
def startAt (x : Int) : Int := mx 0 (mn x 1152921504606846975)
def tickT (last wall : Int) : Int := mx (last + 1) (wall * 65536)
def seen (last t : Int) : Int := mx last (mn t 1152921504606846975)

set_option maxHeartbeats 400000 in
theorem new_any (a : Int) (w : World) :
    Calls Try.prog 9 #[.int .i64 a] w fun e w' => e = .returned (.pointer (some ⟨w.heap.size, 0, none⟩)) ∧ w.alloc (.cells #[.int .i64 (startAt a)] 44) = w' := by
  go_enter Try.func9, Try.ntmps9
  go_wp2
  go_ret
  exact ⟨rfl, rfl⟩

set_option maxHeartbeats 400000 in
theorem last_any (a : Addr) (x : Int) (w : World) (hc : w.cell? a = some (.int .i64 x)) :
    Calls Try.prog 17 #[.pointer (some a)] w fun e w' => e = .returned (.int .i64 x) ∧ w = w' := by
  go_enter Try.func17, Try.ntmps17
  go_wp2
  go_ret
  exact ⟨rfl, rfl⟩

theorem last_nil (w : World) :
    Calls Try.prog 17 #[.pointer none] w fun e w' => e = .returned (.int .i64 0) ∧ w = w' := by
  go_enter Try.func17, Try.ntmps17
  go_wp2
  go_ret
  exact ⟨rfl, rfl⟩

theorem see_any (a : Addr) (x t : Int) (w : World) (hc : w.cell? a = some (.int .i64 x)) (hf : w.frozen? a = false) :
    Calls Try.prog 11 #[.pointer (some a), .int .i64 t] w fun e w' => e = .returned (.tuple #[]) ∧ w.setCell a (.int .i64 (seen x t)) = w' := by
  go_enter Try.func11, Try.ntmps11
  go_wp2
  go_end0
  exact ⟨rfl, rfl⟩

theorem see_nil (t : Int) (w : World) :
    Calls Try.prog 11 #[.pointer none, .int .i64 t] w fun e w' => e = .returned (.tuple #[]) ∧ w = w' := by
  go_enter Try.func11, Try.ntmps11
  go_wp2
  go_end0
  exact ⟨rfl, rfl⟩

/-- the ending of Tick: the time or the error, and where the clock stands behind it. -/
def tickOk (last wall : Int) : Bool := decide (0 ≤ wall ∧ wall ≤ 17592186044415 ∧ tickT last wall ≤ 1152921504606846975)

theorem tick_nil (t : Int) (w : World) :
    Calls Try.prog 10 #[.pointer none, .int .i64 t] w fun e w' => e = .returned (.tuple #[.int .i64 0, .int .i64 1]) ∧ w = w' := by
  go_enter Try.func10, Try.ntmps10
  go_wp2
  go_ret2
  exact ⟨rfl, rfl⟩

theorem tick_arg (a : Addr) (t : Int) (w : World) (h : ¬ (0 ≤ t ∧ t ≤ 17592186044415)) :
    Calls Try.prog 10 #[.pointer (some a), .int .i64 t] w fun e w' => e = .returned (.tuple #[.int .i64 0, .int .i64 1]) ∧ w = w' := by
  by_cases h0 : t < 0
  · go_enter Try.func10, Try.ntmps10
    go_wp2
    go_ret2
    exact ⟨rfl, rfl⟩
  · have h1 : 17592186044415 < t := by omega
    go_enter Try.func10, Try.ntmps10
    go_wp2
    go_ret2
    exact ⟨rfl, rfl⟩

theorem tick_over (a : Addr) (x t : Int) (w : World) (hx0 : 0 ≤ x) (hx : x ≤ 1152921504606846975) (h0 : 0 ≤ t) (h1 : t ≤ 17592186044415) (ho : 1152921504606846975 < tickT x t) (hc : w.cell? a = some (.int .i64 x)) :
    Calls Try.prog 10 #[.pointer (some a), .int .i64 t] w fun e w' => e = .returned (.tuple #[.int .i64 0, .int .i64 6]) ∧ w = w' := by
  unfold tickT at ho
  go_enter Try.func10, Try.ntmps10
  go_wp2
  go_ret2
  exact ⟨rfl, rfl⟩

theorem tick_ok (a : Addr) (x t : Int) (w : World) (hx0 : 0 ≤ x) (hx : x ≤ 1152921504606846975) (h0 : 0 ≤ t) (h1 : t ≤ 17592186044415) (ho : tickT x t ≤ 1152921504606846975) (hc : w.cell? a = some (.int .i64 x)) (hf : w.frozen? a = false) :
    Calls Try.prog 10 #[.pointer (some a), .int .i64 t] w fun e w' => e = .returned (.tuple #[.int .i64 (tickT x t), .int .i64 0]) ∧ w.setCell a (.int .i64 (tickT x t)) = w' := by
  unfold tickT at ho
  go_enter Try.func10, Try.ntmps10
  go_wp2
  go_ret2
  exact ⟨rfl, rfl⟩


theorem wall_in (t : Int) (w : World) (h0 : 0 ≤ t) (h1 : t ≤ 1152921504606846975) :
    Calls Try.prog 12 #[.int .i64 t] w fun e w' => e = .returned (.tuple #[.int .i64 (t / 65536), .int .i64 (t % 65536)]) ∧ w = w' := by
  go_enter Try.func12, Try.ntmps12
  go_wp2
  go_ret2
  exact ⟨rfl, rfl⟩

theorem wall_out (t : Int) (w : World) (h : ¬ (0 ≤ t ∧ t ≤ 1152921504606846975)) :
    Calls Try.prog 12 #[.int .i64 t] w fun e w' => e = .returned (.tuple #[.int .i64 0, .int .i64 0]) ∧ w = w' := by
  by_cases h0 : t < 0
  · go_enter Try.func12, Try.ntmps12
    go_wp2
    go_ret2
    exact ⟨rfl, rfl⟩
  · have h1 : 1152921504606846975 < t := by omega
    go_enter Try.func12, Try.ntmps12
    go_wp2
    go_ret2
    exact ⟨rfl, rfl⟩

theorem rwall_in (t : Int) (w : World) (h0 : 0 ≤ t) (h1 : t ≤ 1152921504606846975) :
    Calls Try.prog 13 #[.int .i64 t] w fun e w' => e = .returned (.tuple #[.int .i64 (t / 65536), .int .i64 (t % 65536)]) ∧ w = w' := by
  go_enter Try.func13, Try.ntmps13
  go_wp2
  go_ret2
  exact ⟨rfl, rfl⟩

theorem rwall_out (t : Int) (w : World) (h : ¬ (0 ≤ t ∧ t ≤ 1152921504606846975)) :
    Calls Try.prog 13 #[.int .i64 t] w fun e w' => e = .returned (.tuple #[.int .i64 0, .int .i64 0]) ∧ w = w' := by
  by_cases h0 : t < 0
  · go_enter Try.func13, Try.ntmps13
    go_wp2
    go_ret2
    exact ⟨rfl, rfl⟩
  · have h1 : 1152921504606846975 < t := by omega
    go_enter Try.func13, Try.ntmps13
    go_wp2
    go_ret2
    exact ⟨rfl, rfl⟩

theorem rstart_any (a : Int) (w : World) :
    Calls Try.prog 14 #[.int .i64 a] w fun e w' => e = .returned (.int .i64 (startAt a)) ∧ w = w' := by
  go_enter Try.func14, Try.ntmps14
  go_wp2
  go_ret
  exact ⟨rfl, rfl⟩

theorem rsee_any (x t : Int) (w : World) :
    Calls Try.prog 15 #[.int .i64 x, .int .i64 t] w fun e w' => e = .returned (.int .i64 (seen x t)) ∧ w = w' := by
  go_enter Try.func15, Try.ntmps15
  go_wp2
  go_ret
  exact ⟨rfl, rfl⟩

theorem rtick_arg (x t : Int) (w : World) (h : ¬ (0 ≤ t ∧ t ≤ 17592186044415)) :
    Calls Try.prog 16 #[.int .i64 x, .int .i64 t] w fun e w' => e = .returned (.tuple #[.int .i64 0, .int .i64 1]) ∧ w = w' := by
  by_cases h0 : t < 0
  · go_enter Try.func16, Try.ntmps16
    go_wp2
    go_ret2
    exact ⟨rfl, rfl⟩
  · have h1 : 17592186044415 < t := by omega
    go_enter Try.func16, Try.ntmps16
    go_wp2
    go_ret2
    exact ⟨rfl, rfl⟩

theorem rtick_over (x t : Int) (w : World) (hx0 : 0 ≤ x) (hx : x ≤ 1152921504606846975) (h0 : 0 ≤ t) (h1 : t ≤ 17592186044415) (ho : 1152921504606846975 < tickT x t) :
    Calls Try.prog 16 #[.int .i64 x, .int .i64 t] w fun e w' => e = .returned (.tuple #[.int .i64 0, .int .i64 6]) ∧ w = w' := by
  unfold tickT mx at ho
  by_cases hb : x + 1 < 65536 * t
  · exfalso; split at ho <;> omega
  · have hd : ¬ (x + 1 ≤ 1152921504606846975) := by split at ho <;> omega
    clear ho
    go_enter Try.func16, Try.ntmps16
    go_wp2
    go_ret2
    exact ⟨rfl, rfl⟩

theorem rtick_ok (x t : Int) (w : World) (hx0 : 0 ≤ x) (hx : x ≤ 1152921504606846975) (h0 : 0 ≤ t) (h1 : t ≤ 17592186044415) (ho : tickT x t ≤ 1152921504606846975) :
    Calls Try.prog 16 #[.int .i64 x, .int .i64 t] w fun e w' => e = .returned (.tuple #[.int .i64 (tickT x t), .int .i64 0]) ∧ w = w' := by
  unfold tickT mx at *
  by_cases hb : x + 1 < 65536 * t
  · have hr : (if x + 1 < t * 65536 then t * 65536 else x + 1) = 65536 * t := by rw [if_pos (by omega)]; omega
    have hd : 65536 * t ≤ 1152921504606846975 := by omega
    rw [hr]
    clear ho hr
    go_enter Try.func16, Try.ntmps16
    go_wp2
    go_ret2
    exact ⟨rfl, rfl⟩
  · have hr : (if x + 1 < t * 65536 then t * 65536 else x + 1) = x + 1 := by rw [if_neg (by omega)]
    have hd : x + 1 ≤ 1152921504606846975 := by omega
    rw [hr]
    clear ho hr
    go_enter Try.func16, Try.ntmps16
    go_wp2
    go_ret2
    exact ⟨rfl, rfl⟩

set_option maxHeartbeats 400000 in
theorem awake_any (w : World) :
    Calls Try.prog 8 #[] w fun e w' => e = .returned (.bool true) ∧ w.alloc (.cells #[.int .i64 327680] 44) = w' := by
  go_enter Try.func8, Try.ntmps8
  go_wp2_with (first | (go_at_call 9; refine (new_any _ _).mono ?_; rintro e w' ⟨rfl, rfl⟩) | (go_at_call 10; refine (tick_ok _ 0 _ _ (by omega) (by omega) (by omega) (by omega) (by decide) (by simp; decide) (by simp)).mono ?_; rintro e w' ⟨rfl, rfl⟩))
  go_ret
  exact ⟨rfl, by simp⟩

end Go.Proofs.Ytikeeekjelampaa
