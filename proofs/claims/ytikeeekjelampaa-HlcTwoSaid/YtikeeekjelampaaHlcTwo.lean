/- For every two numbers and every list of numbers, polyphonylaw04.HlcTwo returns true. No conditions. -/
import Derived.Test.YtikeeekjelampaaCon
import Derived.Deep.RegionWith
import Derived.Deep.RegionHeld3
import Derived.Lib.Hide
import Derived.WalkKit
import Derived.ProofKit
import Derived.OpenShut
import Derived.ShutString
import Derived.ChangeOld
import Derived.Below
namespace Go.Proofs.Ytikeeekjelampaa.hlcTwo
open Go.ChangeShapes Go.WideShapes Go.ChangeAt Go.RowKit
open Go.ChangeMaps (open_string shut_string)
set_option linter.unusedVariables false

theorem own : ownKnob Try.prog.godebug = none := by kernel_rfl
theorem laidOut : laidOutB Try.prog = true := by kernel_rfl

/-- WHAT THE WALK IS TOLD OF A SLICE OF INTEGERS THAT CAME IN: it is nil; or it leads to a row of 'cap' cells, the numbers 'zs' (the first 'len' are its elements, the rest its spare room), each fitting its kind. -/
def IsRow (k : IntKind) (w : World) (a : Option Addr) (len cap : Nat) (zs : List Int) : Prop :=
  (a = none ∧ len = 0 ∧ cap = 0 ∧ zs = []) ∨
  ∃ x, a = some x ∧ len ≤ cap ∧ cap ≤ maxLen ∧ zs.length = cap ∧ (∀ i, i < zs.length → w.cell? (x.add i) = some (.int k (zs.getD i 0))) ∧ ∀ n ∈ zs, (Lit.int k n).wf = true

/-! ### STEP 1: THE WALK: the Go text returns true, AND WRITES NOTHING THAT WAS THERE: 'Below w.heap.size w w'' (Derived/Below.lean: '.refl', '.alloc', '.drew', '.setCell' at a new block, '.trans'). Open each 'IsRow' by 'rcases' AHEAD of 'go_enter'; part every test ahead of the walk. -/
theorem start_bd (x : Int) : 0 ≤ startAt x ∧ startAt x ≤ 1152921504606846975 := by unfold startAt mx mn; split <;> split <;> omega
theorem tick_bd (x t : Int) : x < tickT x t := by unfold tickT mx; split <;> omega
theorem seen_bd (x t : Int) (hx : x ≤ 1152921504606846975) (h0 : 0 ≤ x) (ht : t ≤ 1152921504606846975) : t ≤ seen x t ∧ x ≤ seen x t ∧ seen x t ≤ 1152921504606846975 := by unfold seen mx mn; split <;> split <;> omega

/-- the two clocks, and the list of them, behind some rounds. -/
structure St (w wr : World) (x y : Int) : Prop where
  below : Below w.heap.size w wr
  size : w.heap.size + 1 + 1 + 1 < wr.heap.size
  c0 : wr.cell? ⟨w.heap.size + 1, 0, none⟩ = some (.int .i64 x)
  f0 : wr.frozen? ⟨w.heap.size + 1, 0, none⟩ = false
  c1 : wr.cell? ⟨w.heap.size + 1 + 1, 0, none⟩ = some (.int .i64 y)
  f1 : wr.frozen? ⟨w.heap.size + 1 + 1, 0, none⟩ = false
  p0 : wr.cell? ⟨w.heap.size + 1 + 1 + 1, 0, none⟩ = some (.pointer (some ⟨w.heap.size + 1, 0, none⟩))
  p1 : wr.cell? ⟨w.heap.size + 1 + 1 + 1, 1, none⟩ = some (.pointer (some ⟨w.heap.size + 1 + 1, 0, none⟩))

set_option maxHeartbeats 800000 in
theorem walk_pos (a0 : Int) (a1 : Int) (b o len2 cap2 : Nat) (z2 : Nat → Int) (w : World) (hlen : 0 < len2) (hlen2 : len2 ≤ 1000) (hb : b < w.heap.size)
    (hc : ∀ i, i < len2 → w.cell? ⟨b, o + i, none⟩ = some (.int .i64 (z2 i))) :
    Calls Try.prog 3 #[.int .i64 a0, .int .i64 a1, .slice (some ⟨b, o, none⟩) len2 cap2] w fun e w' => e = .returned (.bool true) ∧ Below w.heap.size w w' := by
  have HC := Lib.hid hc
  clear hc
  have e0 : decide ((1000 : Int) < (len2 : Int)) = false := by simp; omega
  go_enter Try.func3, Try.ntmps3
  go_wp2_with (first | (go_at_call 8; refine (awake_any _).mono ?_; rintro e w' ⟨rfl, rfl⟩) | (go_at_call 9; refine (new_any _ _).mono ?_; rintro e w' ⟨rfl, rfl⟩))
  go_loopw [8, 37] (fun l i wr => ∃ (k : Nat) (x y lst : Int), k ≤ len2 ∧ i = .int .i64 k ∧ l = .int .i64 lst ∧ -1 ≤ lst ∧ lst ≤ x ∧ lst ≤ y ∧ 0 ≤ x ∧ 0 ≤ y ∧ x ≤ 1152921504606846975 ∧ y ≤ 1152921504606846975 ∧ St w wr x y) (fun _ i _ => len2 - (intOf i).toNat)
  case atStart =>
    have := start_bd a0
    have := start_bd a1
    exact ⟨0, startAt a0, startAt a1, -1, by omega, rfl, rfl, by omega, by omega, by omega, by omega, by omega, by omega, by omega,
      ⟨((((Below.refl _ _).alloc (Nat.le_refl _) _).alloc (by simp) _).alloc (by simp; omega) _).alloc (by simp; omega) _, by simp, by go_simp, by go_simp, by go_simp, by go_simp, by go_simp, by go_simp⟩⟩
  case round =>
    obtain ⟨k, x, y, lst, hk, rfl, rfl, h1, h2, h3, h4, h5, h6, h7, hst⟩ := hrel
    by_cases hlt : k < len2
    · have hcell : wr.cell? ⟨b, o + k, none⟩ = some (.int .i64 (z2 k)) := by rw [hst.below.cell (by simpa using hb)]; exact HC.out k hlt
      obtain ⟨hbel, hsz, hc0, hf0, hc1, hf1, hp0, hp1⟩ := hst
      have HB := Lib.hid hbel
      clear hbel
      generalize z2 k = t at *
      have q1 : ¬ b = w.heap.size + 1 := by omega
      have q2 : ¬ b = w.heap.size + 1 + 1 := by omega
      have q3 : ¬ w.heap.size + 1 = b := by omega
      have q4 : ¬ w.heap.size + 1 + 1 = b := by omega
      rcases Nat.mod_two_eq_zero_or_one k with e | e
      · have hk2 : (k : Int) % 2 = 0 := by omega
        have hk3 : (k : Int).tmod 2 = 0 := by rw [Int.tmod_eq_emod_of_nonneg (by omega)]; omega
        clear e
        by_cases ht : 0 ≤ t ∧ t ≤ 17592186044415
        · obtain ⟨ht0, ht1⟩ := ht
          by_cases ho : tickT x t ≤ 1152921504606846975
          · go_wp2_with fail
            go_region_held3 (fun w' => w'.cell? ⟨w.heap.size + 1 + 1 + 1, 0, none⟩ = some (.pointer (some ⟨w.heap.size + 1, 0, none⟩)) ∧ w'.cell? ⟨b, o + k, none⟩ = some (.int .i64 t)) (go_keep)
              (first | (go_at_call 10; refine Calls.mono (tick_ok _ x t _ h4 h6 ht0 ht1 ho (by go_simp) (by go_simp)) ?_; rintro e w' ⟨rfl, rfl⟩))
            have htb := tick_bd x t
            have hsb := seen_bd y (tickT x t) h7 h5 ho
            go_wp2_with (first | (go_at_call 11; refine Calls.mono (see_any _ y (tickT x t) _ (by go_simp) (by go_simp)) ?_; rintro e w' ⟨rfl, rfl⟩))
            go_roundw
            case rel =>
              exact ⟨k + 1, tickT x t, seen y (tickT x t), tickT x t, by omega, by go_num, rfl, by omega, by omega, by omega, by omega, by omega, by omega, by omega,
                ⟨((HB.out.setCell (by first | (simp; done) | (simp; omega)) _).drew).setCell (by first | (simp; done) | (simp; omega)) _, by first | (simp; done) | (simp; omega), by go_simp, by go_simp, by go_simp, by go_simp, by go_simp, by go_simp⟩⟩
            case measure => simp [intOf]; omega
          · go_wp2_with fail
            go_region_held3 (fun w' => w'.cell? ⟨w.heap.size + 1 + 1 + 1, 0, none⟩ = some (.pointer (some ⟨w.heap.size + 1, 0, none⟩)) ∧ w'.cell? ⟨b, o + k, none⟩ = some (.int .i64 t)) (go_keep)
              (first | (go_at_call 10; refine Calls.mono (tick_over _ x t _ h4 h6 ht0 ht1 (by omega) (by go_simp)) ?_; rintro e w' ⟨rfl, rfl⟩))
            go_wp2
            go_roundw
            case rel => exact ⟨k + 1, x, y, lst, by omega, by go_num, rfl, by omega, by omega, by omega, by omega, by omega, by omega, by omega, ⟨HB.out.drew, by first | (simp; done) | (simp; omega), by go_simp, by go_simp, by go_simp, by go_simp, by go_simp, by go_simp⟩⟩
            case measure => simp [intOf]; omega
        · go_wp2_with fail
          go_region_held3 (fun w' => w'.cell? ⟨w.heap.size + 1 + 1 + 1, 0, none⟩ = some (.pointer (some ⟨w.heap.size + 1, 0, none⟩)) ∧ w'.cell? ⟨b, o + k, none⟩ = some (.int .i64 t)) (go_keep)
            (first | (go_at_call 10; refine Calls.mono (tick_arg _ t _ ht) ?_; rintro e w' ⟨rfl, rfl⟩))
          go_wp2
          go_roundw
          case rel => exact ⟨k + 1, x, y, lst, by omega, by go_num, rfl, by omega, by omega, by omega, by omega, by omega, by omega, by omega, ⟨HB.out.drew, by first | (simp; done) | (simp; omega), by go_simp, by go_simp, by go_simp, by go_simp, by go_simp, by go_simp⟩⟩
          case measure => simp [intOf]; omega
      · have hk2 : (k : Int) % 2 = 1 := by omega
        have hk3 : (k : Int).tmod 2 = 1 := by rw [Int.tmod_eq_emod_of_nonneg (by omega)]; omega
        clear e
        by_cases ht : 0 ≤ t ∧ t ≤ 17592186044415
        · obtain ⟨ht0, ht1⟩ := ht
          by_cases ho : tickT y t ≤ 1152921504606846975
          · go_wp2_with fail
            go_region_held3 (fun w' => w'.cell? ⟨w.heap.size + 1 + 1 + 1, 1, none⟩ = some (.pointer (some ⟨w.heap.size + 1 + 1, 0, none⟩)) ∧ w'.cell? ⟨b, o + k, none⟩ = some (.int .i64 t)) (go_keep)
              (first | (go_at_call 10; refine Calls.mono (tick_ok _ y t _ h5 h7 ht0 ht1 ho (by go_simp) (by go_simp)) ?_; rintro e w' ⟨rfl, rfl⟩))
            have htb := tick_bd y t
            have hsb := seen_bd x (tickT y t) h6 h4 ho
            go_wp2_with (first | (go_at_call 11; refine Calls.mono (see_any _ x (tickT y t) _ (by go_simp) (by go_simp)) ?_; rintro e w' ⟨rfl, rfl⟩))
            go_roundw
            case rel =>
              exact ⟨k + 1, seen x (tickT y t), tickT y t, tickT y t, by omega, by go_num, rfl, by omega, by omega, by omega, by omega, by omega, by omega, by omega,
                ⟨((HB.out.setCell (by first | (simp; done) | (simp; omega)) _).drew).setCell (by first | (simp; done) | (simp; omega)) _, by first | (simp; done) | (simp; omega), by go_simp, by go_simp, by go_simp, by go_simp, by go_simp, by go_simp⟩⟩
            case measure => simp [intOf]; omega
          · go_wp2_with fail
            go_region_held3 (fun w' => w'.cell? ⟨w.heap.size + 1 + 1 + 1, 1, none⟩ = some (.pointer (some ⟨w.heap.size + 1 + 1, 0, none⟩)) ∧ w'.cell? ⟨b, o + k, none⟩ = some (.int .i64 t)) (go_keep)
              (first | (go_at_call 10; refine Calls.mono (tick_over _ y t _ h5 h7 ht0 ht1 (by omega) (by go_simp)) ?_; rintro e w' ⟨rfl, rfl⟩))
            go_wp2
            go_roundw
            case rel => exact ⟨k + 1, x, y, lst, by omega, by go_num, rfl, by omega, by omega, by omega, by omega, by omega, by omega, by omega, ⟨HB.out.drew, by first | (simp; done) | (simp; omega), by go_simp, by go_simp, by go_simp, by go_simp, by go_simp, by go_simp⟩⟩
            case measure => simp [intOf]; omega
        · go_wp2_with fail
          go_region_held3 (fun w' => w'.cell? ⟨w.heap.size + 1 + 1 + 1, 1, none⟩ = some (.pointer (some ⟨w.heap.size + 1 + 1, 0, none⟩)) ∧ w'.cell? ⟨b, o + k, none⟩ = some (.int .i64 t)) (go_keep)
            (first | (go_at_call 10; refine Calls.mono (tick_arg _ t _ ht) ?_; rintro e w' ⟨rfl, rfl⟩))
          go_wp2
          go_roundw
          case rel => exact ⟨k + 1, x, y, lst, by omega, by go_num, rfl, by omega, by omega, by omega, by omega, by omega, by omega, by omega, ⟨HB.out.drew, by first | (simp; done) | (simp; omega), by go_simp, by go_simp, by go_simp, by go_simp, by go_simp, by go_simp⟩⟩
          case measure => simp [intOf]; omega
    · have hB := Lib.hid hst.below
      clear hst
      go_wp2
      go_ret
      exact ⟨rfl, hB.out⟩

theorem walk_many (a0 : Int) (a1 : Int) (a : Option Addr) (len2 cap2 : Nat) (w : World) (h : 1000 < len2) :
    Calls Try.prog 3 #[.int .i64 a0, .int .i64 a1, .slice a len2 cap2] w fun e w' => e = .returned (.bool true) ∧ Below w.heap.size w w' := by
  have e0 : decide ((1000 : Int) < (len2 : Int)) = true := by simp; omega
  go_enter Try.func3, Try.ntmps3
  go_wp2_with (first | (go_at_call 8; refine (awake_any _).mono ?_; rintro e w' ⟨rfl, rfl⟩))
  go_ret
  exact ⟨rfl, ((Below.refl _ _).alloc (Nat.le_refl _) _).alloc (by simp) _⟩

set_option maxHeartbeats 400000 in
theorem walk_none (a0 : Int) (a1 : Int) (a : Option Addr) (cap2 : Nat) (w : World) :
    Calls Try.prog 3 #[.int .i64 a0, .int .i64 a1, .slice a 0 cap2] w fun e w' => e = .returned (.bool true) ∧ Below w.heap.size w w' := by
  go_enter Try.func3, Try.ntmps3
  go_wp2_with (first | (go_at_call 8; refine (awake_any _).mono ?_; rintro e w' ⟨rfl, rfl⟩) | (go_at_call 9; refine (new_any _ _).mono ?_; rintro e w' ⟨rfl, rfl⟩))
  refine wp_loop_rounds 1 ?_
  rw [rounds_succ]
  go_wp2
  go_ret
  exact ⟨rfl, ((((Below.refl _ _).alloc (Nat.le_refl _) _).alloc (by simp) _).alloc (by simp; omega) _).alloc (by simp; omega) _⟩

theorem walk (a0 : Int) (a1 : Int) (a2 : Option Addr) (len2 cap2 : Nat) (z2 : List Int) (w : World) (w0 : (Lit.int .i64 a0).wf = true) (w1 : (Lit.int .i64 a1).wf = true) (w2 : IsRow .i64 w a2 len2 cap2 z2) :
    Calls Try.prog 3 #[.int .i64 a0, .int .i64 a1, .slice a2 len2 cap2] w fun e w' => e = .returned (.bool true) ∧ Below w.heap.size w w' := by
  rcases w2 with ⟨rfl, rfl, rfl, _⟩ | ⟨x, rfl, hl, hm, hz, hcell, hwz⟩
  · exact walk_none a0 a1 none 0 w
  · by_cases h0 : len2 = 0
    · subst h0; exact walk_none a0 a1 _ cap2 w
    · by_cases h1 : 1000 < len2
      · exact walk_many a0 a1 _ len2 cap2 w h1
      · obtain ⟨b, o, rfl, hc⟩ := ints_at hcell (by omega)
        refine walk_pos a0 a1 b o len2 cap2 (fun i => z2.getD i 0) w (by omega) (by omega) ?_ (fun i hi => hc i (by omega))
        exact World.block_lt_of_cell? w _ (hc 0 (by omega))

/-! ### THE ROW's STEP: WRITTEN OUT: LEAVE IT -/
set_option maxRecDepth 100000 in
theorem lifted (os : Os) (started : os.Started) (H : Type) (enc : TypeId × Value → H) :
    ReturnsInHanded {} Try.checked os 3 .any (Rows.hlcTwoSpec.pre6 enc Try.prog Try.f3 Rows.hlcTwoRow.domain false) (Rows.hlcTwoSpec.post enc Try.prog Try.f3 false true false false) := by
  refine returnsInHanded_of_change (C := Try.checked) own started (by kernel_rfl) Try.func3
    (ChangeSpec.witness6 (enc := enc) (C := Try.checked) false ⟨#[], #[.int .i64 0, .int .i64 0, .slice none 0 0], []⟩ 8 (by kernel_rfl) (by kernel_rfl) (by kernel_rfl) (by kernel_rfl)) ?_
  intro W base args ds gs before hval0 hW hcnd _
  have hval : ∀ (j : Nat) t v, Try.f3.params[j]? = some t → args[j]? = some v → Value.okWide Try.prog W .any base t v := hval0
  have hW' := hW
  obtain ⟨p, q, hA0, hV, rfl, hfz, hnd⟩ := hW
  have hA : DataW.TrodAll enc Try.prog W 0 (fun _ => true) true Try.f3.params.toList args.toList ds p := hA0
  rw [Try.params3] at hA hval
  obtain ⟨v0, vs0, d0, ds0, p0, q0, hargs, rfl, rfl, h0, r0⟩ := trodAll_cons hA
  obtain ⟨v1, vs1, d1, ds1, p1, q1, rfl, rfl, rfl, h1, r1⟩ := trodAll_cons r0
  obtain ⟨v2, vs2, d2, ds2, p2, q2, rfl, rfl, rfl, h2, r2⟩ := trodAll_cons r1
  obtain ⟨rfl, rfl, rfl⟩ := trodAll_nil r2
  obtain rfl : args = #[v0, v1, v2] := by cases args; simp_all
  obtain ⟨rfl, rfl⟩ := trodVars_none hV
  obtain ⟨a0, rfl, rfl, rfl, w0⟩ := open_int Try.underlying3 (hval 0 3 v0 rfl rfl) h0
  obtain ⟨a1, rfl, rfl, rfl, w1⟩ := open_int Try.underlying3 (hval 1 3 v1 rfl rfl) h1
  obtain ⟨a2, len2, cap2, rfl⟩ := okWide_slice Try.underlying22 (hval 2 22 v2 rfl rfl)
  have k2 := h2
  have lt2 : ∀ x ∈ p2, x.block < W.heap.size := by obtain ⟨m, hm⟩ := k2; exact DataW.trod_lt m _ _ _ hm
  obtain ⟨z2, w2⟩ : ∃ zs, IsRow .i64 W a2 len2 cap2 zs := by
    obtain ⟨fuel, hf⟩ := h2
    rcases open_ints Try.underlying22 Try.underlying3 (by kernel_rfl) hf with ⟨hcs, _⟩ | ⟨x, l, c, zs, hcs, _, hl, hm, hz, _, hcell, hwz⟩
    · simp [Value.cells] at hcs
      obtain ⟨rfl, rfl, rfl⟩ := hcs
      exact ⟨[], .inl ⟨rfl, rfl, rfl, rfl⟩⟩
    · simp [Value.cells] at hcs
      obtain ⟨rfl, rfl, rfl⟩ := hcs
      exact ⟨zs, .inr ⟨_, rfl, hl, hm, by simpa using hz, hcell, hwz⟩⟩
  clear hA0 hval0
  refine (walk a0 a1 a2 len2 cap2 z2 W w0 w1 w2).mono fun e W' ⟨he, bel⟩ => ?_
  subst he
  exact ⟨_, rfl, _, _, _, [], _, [], hW', trodAll_mk1 (shut_bool Try.underlying4 _), (trodAll_cons_mk (shut_int Try.underlying3 w0) (trodAll_cons_mk (shut_int Try.underlying3 w1) (trodAll_cons_mk (Below.trod laidOut (by kernel_rfl) (of_decide_eq_true (by kernel_rfl)) k2 bel lt2) trodAll_mk0))), rfl, bel.frame _, fun h => by cases h⟩

theorem over : Rows.hlcTwoRow.holds Try.pinned (OpenSpec.ofChange Rows.hlcTwoSpec) :=
  OpenClaim.holds_of_wide 3 Try.f3 rfl rfl rfl rfl rfl rfl rfl ⟨rfl, rfl, rfl, rfl, rfl⟩ rfl rfl rfl rfl rfl (by kernel_rfl) Try.func3 (by kernel_rfl)
    (of_decide_eq_true (by kernel_rfl)) (by unfold Func.isWrapper; first | (rw [if_pos (by decide +kernel)]; kernel_rfl) | (rw [if_neg (by decide +kernel)]; exact ⟨rfl, rfl⟩))
    (fun os started H enc _ => lifted os started H enc)

/-- ████ THE STATEMENT ████ -/
theorem proved : Rows.HlcTwoSaid := over
#print axioms proved
end Go.Proofs.Ytikeeekjelampaa.hlcTwo
