/- The walk of polyphonylaw04.HlcRises: for every number and every list of calls it returns true, and what was there is as it was. No conditions. -/
import Derived.Test.YtikeeekjelampaaCon
import Derived.Test.YtikeeekjelampaaFlat
import Derived.Deep.RegionWith
import Derived.Deep.RegionHeld3
import Derived.Lib.Hide
import Derived.Handy
namespace Go.Proofs.Ytikeeekjelampaa.hlcRises
open Go.RowKit
attribute [local go_sem] bmax2_int bmin2_int bmax_two bmin_two
set_option linter.unusedVariables false

theorem start_bd (x : Int) : 0 ≤ startAt x ∧ startAt x ≤ 1152921504606846975 := by unfold startAt mx mn; split <;> split <;> omega
theorem tick_bd (x t : Int) : x < tickT x t := by unfold tickT mx; split <;> omega
theorem seen_bd (x t : Int) (hx : x ≤ 1152921504606846975) (h0 : 0 ≤ x) : 0 ≤ seen x t ∧ seen x t ≤ 1152921504606846975 := by unfold seen mx mn; split <;> split <;> omega

theorem tick_parts (x t : Int) (_h1 : 0 ≤ x) (_h0 : 0 ≤ t) : t ≤ tickT x t / 65536 ∧ (x / 65536 < t → tickT x t / 65536 = t ∧ tickT x t % 65536 = 0) := by
  unfold tickT mx; split <;> omega

/-- the clock behind some rounds. -/
structure St (w wr : World) (x : Int) : Prop where
  below : Below w.heap.size w wr
  size : w.heap.size + 1 < wr.heap.size
  c0 : wr.cell? ⟨w.heap.size + 1, 0, none⟩ = some (.int .i64 x)
  f0 : wr.frozen? ⟨w.heap.size + 1, 0, none⟩ = false

set_option maxRecDepth 100000 in
set_option maxHeartbeats 800000 in
theorem walk_pos (a0 : Int) (b o len2 cap2 : Nat) (N : Nat → Int) (S : Nat → Bool) (w : World) (hlen : 0 < len2) (hlen2 : len2 ≤ 1000) (hb : b < w.heap.size)
    (hc : ∀ i, i < len2 → w.cell? ⟨b, o + i * 2, none⟩ = some (.int .i64 (N i)) ∧ w.cell? ⟨b, o + i * 2 + 1, none⟩ = some (.bool (S i))) :
    Calls Try.prog 7 #[.int .i64 a0, .slice (some ⟨b, o, none⟩) len2 cap2] w fun e w' => e = .returned (.bool true) ∧ Below w.heap.size w w' := by
  have HC := Lib.hid hc
  clear hc
  have e0 : decide ((1000 : Int) < (len2 : Int)) = false := by simp; omega
  go_enter Try.func7, Try.ntmps7
  go_wp2_with (first | (go_at_call 8; refine (awake_any _).mono ?_; rintro e w' ⟨rfl, rfl⟩) | (go_at_call 9; refine (new_any _ _).mono ?_; rintro e w' ⟨rfl, rfl⟩) | (go_at_call 17; refine Calls.mono (last_any _ (startAt a0) _ (by go_simp)) ?_; rintro e w' ⟨rfl, rfl⟩))
  go_loopw [6, 31] (fun l i wr => ∃ (k : Nat) (x : Int), k ≤ len2 ∧ i = .int .i64 k ∧ l = .int .i64 x ∧ 0 ≤ x ∧ x ≤ 1152921504606846975 ∧ St w wr x) (fun _ i _ => len2 - (intOf i).toNat)
  case atStart =>
    have := start_bd a0
    exact ⟨0, startAt a0, by omega, rfl, rfl, by omega, by omega,
      ⟨((Below.refl _ _).alloc (Nat.le_refl _) _).alloc (by simp) _, by simp, by go_simp, by go_simp⟩⟩
  case round =>
    obtain ⟨k, x, hk, rfl, rfl, h1, h2, hst⟩ := hrel
    by_cases hlt : k < len2
    · have hcell := HC.out k hlt
      rw [← hst.below.cell (p := ⟨b, o + k * 2, none⟩) (by simpa using hb), ← hst.below.cell (p := ⟨b, o + k * 2 + 1, none⟩) (by simpa using hb)] at hcell
      obtain ⟨hd0, hd1⟩ := hcell
      obtain ⟨hbel, hsz, hc0, hf0⟩ := hst
      have HB := Lib.hid hbel
      clear hbel
      generalize N k = t at *
      generalize S k = s at *
      have q1 : ¬ b = w.heap.size + 1 := by omega
      have q3 : ¬ w.heap.size + 1 = b := by omega
      have q5 : ¬ wr.heap.size = w.heap.size + 1 := by omega
      have q6 : ¬ w.heap.size + 1 = wr.heap.size := by omega
      cases s with
      | true =>
        have hsb := seen_bd x t h2 h1
        go_wp2_with (first | (go_at_call 11; refine Calls.mono (see_any _ x t _ (by go_simp) (by go_simp)) ?_; rintro e w' ⟨rfl, rfl⟩))
        go_roundw
        case rel => exact ⟨k + 1, seen x t, by omega, by go_num, rfl, by omega, by omega, ⟨by have hbel := HB.out; have hsz' := hbel.size; go_grown, by simp; omega, by go_simp, by go_simp⟩⟩
        case measure => simp [intOf]; omega
      | false =>
        by_cases ht : 0 ≤ t ∧ t ≤ 17592186044415
        · obtain ⟨ht0, ht1⟩ := ht
          by_cases ho : tickT x t ≤ 1152921504606846975
          · have htb := tick_bd x t
            have hta := tick_parts x t h1 ht0
            obtain ⟨g1, g2⟩ := hta
            have g0 : 0 ≤ tickT x t := by omega
            by_cases hn : x / 65536 < t
            · obtain ⟨g3, g4⟩ := g2 hn
              clear g2
              have g5 : (tickT x t / 65536 != t) = false := by rw [g3]; simp
              have g6 : (tickT x t % 65536 != 0) = false := by rw [g4]; simp
              clear g3 g4
              go_wp2_with (first | (go_at_call_of 12 (Value.int IntKind.i64 x); refine (wall_in x _ h1 h2).mono ?_; rintro e w' ⟨rfl, rfl⟩) | (go_at_call 12; refine (wall_in (tickT x t) _ g0 ho).mono ?_; rintro e w' ⟨rfl, rfl⟩) | (go_at_call 10; refine Calls.mono (tick_ok _ x t _ h1 h2 ht0 ht1 ho (by go_simp) (by go_simp)) ?_; rintro e w' ⟨rfl, rfl⟩))
              go_roundw
              case rel => exact ⟨k + 1, tickT x t, by omega, by go_num, rfl, by omega, by omega, ⟨by have hbel := HB.out; have hsz' := hbel.size; go_grown, by simp; omega, by go_simp, by go_simp⟩⟩
              case measure => simp [intOf]; omega
            · clear g2
              go_wp2_with (first | (go_at_call_of 12 (Value.int IntKind.i64 x); refine (wall_in x _ h1 h2).mono ?_; rintro e w' ⟨rfl, rfl⟩) | (go_at_call 12; refine (wall_in (tickT x t) _ g0 ho).mono ?_; rintro e w' ⟨rfl, rfl⟩) | (go_at_call 10; refine Calls.mono (tick_ok _ x t _ h1 h2 ht0 ht1 ho (by go_simp) (by go_simp)) ?_; rintro e w' ⟨rfl, rfl⟩))
              go_roundw
              case rel => exact ⟨k + 1, tickT x t, by omega, by go_num, rfl, by omega, by omega, ⟨by have hbel := HB.out; have hsz' := hbel.size; go_grown, by simp; omega, by go_simp, by go_simp⟩⟩
              case measure => simp [intOf]; omega
          · go_wp2_with (first | (go_at_call 12; refine (wall_in x _ h1 h2).mono ?_; rintro e w' ⟨rfl, rfl⟩) | (go_at_call 10; refine Calls.mono (tick_over _ x t _ h1 h2 ht0 ht1 (by omega) (by go_simp)) ?_; rintro e w' ⟨rfl, rfl⟩) | (go_at_call 17; refine Calls.mono (last_any _ x _ (by go_simp)) ?_; rintro e w' ⟨rfl, rfl⟩))
            go_roundw
            case rel => exact ⟨k + 1, x, by omega, by go_num, rfl, by omega, by omega, ⟨by have hbel := HB.out; have hsz' := hbel.size; go_grown, by simp; omega, by go_simp, by go_simp⟩⟩
            case measure => simp [intOf]; omega
        · go_wp2_with (first | (go_at_call 12; refine (wall_in x _ h1 h2).mono ?_; rintro e w' ⟨rfl, rfl⟩) | (go_at_call 10; refine (tick_arg _ t _ ht).mono ?_; rintro e w' ⟨rfl, rfl⟩) | (go_at_call 17; refine Calls.mono (last_any _ x _ (by go_simp)) ?_; rintro e w' ⟨rfl, rfl⟩))
          go_roundw
          case rel => exact ⟨k + 1, x, by omega, by go_num, rfl, by omega, by omega, ⟨by have hbel := HB.out; have hsz' := hbel.size; go_grown, by simp; omega, by go_simp, by go_simp⟩⟩
          case measure => simp [intOf]; omega
    · have hB := Lib.hid hst.below
      have hc0 := hst.c0
      clear hst
      go_wp2_with (first | (go_at_call 17; refine Calls.mono (last_any _ x _ (by go_simp)) ?_; rintro e w' ⟨rfl, rfl⟩))
      go_ret
      exact ⟨by simp, hB.out⟩

theorem walk_many (a0 : Int) (a : Option Addr) (len2 cap2 : Nat) (w : World) (h : 1000 < len2) :
    Calls Try.prog 7 #[.int .i64 a0, .slice a len2 cap2] w fun e w' => e = .returned (.bool true) ∧ Below w.heap.size w w' := by
  have e0 : decide ((1000 : Int) < (len2 : Int)) = true := by simp; omega
  go_enter Try.func7, Try.ntmps7
  go_wp2_with (first | (go_at_call 8; refine (awake_any _).mono ?_; rintro e w' ⟨rfl, rfl⟩))
  go_ret
  exact ⟨rfl, ((Below.refl _ _).alloc (Nat.le_refl _) _).alloc (by simp) _⟩

set_option maxRecDepth 100000 in
set_option maxHeartbeats 400000 in
theorem walk_none (a0 : Int) (a : Option Addr) (cap2 : Nat) (w : World) :
    Calls Try.prog 7 #[.int .i64 a0, .slice a 0 cap2] w fun e w' => e = .returned (.bool true) ∧ Below w.heap.size w w' := by
  go_enter Try.func7, Try.ntmps7
  go_wp2_with (first | (go_at_call 8; refine (awake_any _).mono ?_; rintro e w' ⟨rfl, rfl⟩) | (go_at_call 9; refine (new_any _ _).mono ?_; rintro e w' ⟨rfl, rfl⟩) | (go_at_call 17; refine Calls.mono (last_any _ (startAt a0) _ (by go_simp)) ?_; rintro e w' ⟨rfl, rfl⟩))
  refine wp_loop_rounds 1 ?_
  rw [rounds_succ]
  go_wp2_with (first | (go_at_call 17; refine Calls.mono (last_any _ (startAt a0) _ (by go_simp)) ?_; rintro e w' ⟨rfl, rfl⟩))
  go_ret
  exact ⟨by simp, ((Below.refl _ _).alloc (Nat.le_refl _) _).alloc (by simp) _⟩

theorem two_cells {cs : List Value} (h : LeavesOk [.int .i64, .bool] cs) : ∃ (n : Int) (s : Bool), cs = [.int .i64 n, .bool s] := by
  obtain ⟨n, vs, e, _, h1⟩ := h.int
  obtain ⟨s, vs1, e1, h2⟩ := h1.bool
  have e2 := h2.none
  subst e2 e1 e
  exact ⟨n, s, rfl⟩

theorem ops_of {w : World} {b o len : Nat} (h : ∀ i, i < len → ∃ cs : List Value, LeavesOk [.int .i64, .bool] cs ∧ ∀ j, j < 2 → w.cell? ⟨b, o + i * 2 + j, none⟩ = cs[j]?) :
    ∃ (N : Nat → Int) (S : Nat → Bool), ∀ i, i < len → w.cell? ⟨b, o + i * 2, none⟩ = some (.int .i64 (N i)) ∧ w.cell? ⟨b, o + i * 2 + 1, none⟩ = some (.bool (S i)) := by
  have h' : ∀ i, i < len → ∃ x : Int × Bool, w.cell? ⟨b, o + i * 2, none⟩ = some (.int .i64 x.1) ∧ w.cell? ⟨b, o + i * 2 + 1, none⟩ = some (.bool x.2) := fun i hi => by
    obtain ⟨cs, hcs, hc⟩ := h i hi
    obtain ⟨n, s, rfl⟩ := two_cells hcs
    exact ⟨(n, s), by simpa using hc 0 (by omega), by simpa using hc 1 (by omega)⟩
  obtain ⟨f, hf⟩ := Deep.choose_lt h'
  exact ⟨fun i => (f i).1, fun i => (f i).2, hf⟩

theorem walk (a0 : Int) (a : Option Addr) (len cap : Nat) (w : World) (w0 : (Lit.int .i64 a0).wf = true) (hl : len ≤ cap) (hm : cap ≤ maxLen) (hr : RowsIn [.int .i64, .bool] w a len) :
    Calls Try.prog 7 #[.int .i64 a0, .slice a len cap] w fun e w' => e = .returned (.bool true) ∧ Below w.heap.size w w' := by
  rcases hr with rfl | ⟨b, o, rfl, hb, h⟩
  · exact walk_none a0 a cap w
  · by_cases h0 : len = 0
    · subst h0; exact walk_none a0 _ cap w
    · by_cases h1 : 1000 < len
      · exact walk_many a0 _ len cap w h1
      · obtain ⟨N, S, hc⟩ := ops_of h
        exact walk_pos a0 b o len cap N S w (by omega) (by omega) hb hc

end Go.Proofs.Ytikeeekjelampaa.hlcRises
