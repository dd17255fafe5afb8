/- The contracts of Sum (the program's and the reference's): what a slice's events add, all together. At most 2^22 events. -/
import Derived.Test.YtclmhofnliacjaaTallyOne
namespace Go.Proofs.Ytclmhofnliacjaa
open Go.RowKit
attribute [local go_sem] bmax2_int bmin2_int bmax_two bmin_two blk_alloc blk_setRow blk_setCell blk_drew blk_drewN alloc_setRow cell_setRow_ne drew_setRow drewN_setRow fold_z0 vv_size vv_get vv_set
attribute [local go_sem ↓] exec_load_vv exec_store_vv exec_index_vv exec_eql_vv exec_neq_vv
attribute [local go_sem] loadVV_at storeVV_at indexVV_at eqVV_eql eqVV_neq ne_r2 ne_l2 ne_r3 ne_l3 ne_r4 ne_l4 ne_r5 ne_l5 ne_r6 ne_l6 ne_r7 ne_l7 ne_r8 ne_l8
set_option linter.unusedVariables false
set_option linter.unusedSimpArgs false
attribute [local go_sem] rowN_drew fold_zE evA_size evA_get0 evA_get1 evA_get2 evA_get19 evA_get20 evA_get21 evA_get22 evA_get23 evA_get24 evA_get25 loadEv_at storeEv_at rowN_ev_new
attribute [local go_sem ↓] exec_load_ev exec_store_ev

def sumE (L : List Ev) : Int := (L.map oneE).sum
theorem sumE_nil : sumE [] = 0 := rfl
theorem sumE_append (L M : List Ev) : sumE (L ++ M) = sumE L + sumE M := by unfold sumE; rw [List.map_append, List.sum_append]
theorem sumE_one (e : Ev) : sumE [e] = oneE e := by simp [sumE]
theorem take_succ' (L : List Ev) {k : Nat} (h : k < L.length) : L.take (k + 1) = L.take k ++ [L[k]] := by
  rw [List.take_succ_eq_append_getElem h]
theorem sumE_succ (L : List Ev) {k : Nat} (h : k < L.length) : sumE (L.take (k + 1)) = sumE (L.take k) + oneE L[k] := by
  rw [take_succ' L h, sumE_append, sumE_one]
theorem sumE_bd : ∀ L : List Ev, -1099511627776 * (L.length : Int) ≤ sumE L ∧ sumE L ≤ 1099511627776 * (L.length : Int)
  | [] => by simp [sumE]
  | e :: L => by
    have h := sumE_bd L
    have h1 := oneE_bd e
    have h2 : sumE (e :: L) = oneE e + sumE L := by simp [sumE]
    rw [h2, List.length_cons]
    omega

set_option maxHeartbeats 1000000 in
theorem sum_pos (b o : Nat) (cap : Nat) (L : List Ev) (w : World) (h : ∀ (i : Nat) (h : i < L.length), rowN 26 w b (o + i * 26) = some (evA L[i])) (hL : L.length ≤ 4194304) :
    Calls Try.prog 8 #[.slice (some ⟨b, o, none⟩) L.length cap] w fun x w' => x = .returned (.int .i64 (sumE L)) ∧ Below w.heap.size w w' := by
  have HC := Lib.hid h
  clear h
  go_enter Try.func8, Try.ntmps8
  go_wp2
  go_loopw [3, 8] (fun n i wr => ∃ k : Nat, k ≤ L.length ∧ i = .int .i64 k ∧ n = .int .i64 (sumE (L.take k)) ∧ Below w.heap.size w wr) (fun _ i _ => L.length - (intOf i).toNat)
  case atStart => exact ⟨0, by omega, rfl, rfl, Below.refl _ _⟩
  case round =>
    obtain ⟨k, hk, rfl, rfl, hb⟩ := hrel
    by_cases hlt : k < L.length
    · have hrow := rowN_keep hb (HC.out k hlt)
      have HB := Lib.hid hb
      have HS := Lib.hid (sumE_succ L hlt)
      have hbd := sumE_bd (L.take k)
      rw [List.length_take, Nat.min_eq_left hk] at hbd
      have hob := oneE_bd L[k]
      clear hb
      generalize L[k] = e at *
      generalize sumE (L.take k) = s at *
      have h1 : -4611686018427387904 ≤ s := by omega
      have h2 : s ≤ 4611686018427387904 := by omega
      clear hbd
      go_wp2_with fail
      refine Calls.mono (one_any e _) ?_
      rintro x w1 ⟨rfl, hb'⟩
      go_wp2
      go_roundw
      case rel => exact ⟨k + 1, by omega, by go_num, by rw [HS.out], gbelow hb' (HB.out.alloc HB.out.size _)⟩
      case measure => simp [intOf]; omega
    · have e : k = L.length := by omega
      have E : Hid (L.take k = L) := Lib.hid (by rw [e, List.take_length])
      have HB := Lib.hid hb
      clear hb e
      go_wp2
      go_ret
      exact ⟨by rw [E.out]; rfl, HB.out⟩

theorem sum_any (v : Value) (L : List Ev) (w : World) (h : EvSl w v L) (hL : L.length ≤ 4194304) :
    Calls Try.prog 8 #[v] w fun x w' => x = .returned (.int .i64 (sumE L)) ∧ Below w.heap.size w w' := by
  obtain ⟨a, cap, rfl, hc, hm, rfl | ⟨b, o, rfl, hrow⟩⟩ := h
  · go_enter Try.func8, Try.ntmps8
    go_wp2
    refine wp_loop_rounds 1 ?_
    rw [rounds_succ]
    go_wp2
    go_ret
    exact ⟨rfl, Below.refl _ _⟩
  · exact sum_pos b o cap L w hrow hL

set_option maxHeartbeats 1000000 in
theorem rsum_pos (b o : Nat) (cap : Nat) (L : List Ev) (w : World) (h : ∀ (i : Nat) (h : i < L.length), rowN 26 w b (o + i * 26) = some (evA L[i])) (hL : L.length ≤ 4194304) :
    Calls Try.prog 12 #[.slice (some ⟨b, o, none⟩) L.length cap] w fun x w' => x = .returned (.int .i64 (sumE L)) ∧ Below w.heap.size w w' := by
  have HC := Lib.hid h
  clear h
  go_enter Try.func12, Try.ntmps12
  go_wp2
  go_loopw [3, 7] (fun n i wr => ∃ k : Nat, k ≤ L.length ∧ i = .int .i64 k ∧ n = .int .i64 (sumE (L.take k)) ∧ Below w.heap.size w wr) (fun _ i _ => L.length - (intOf i).toNat)
  case atStart => exact ⟨0, by omega, rfl, rfl, Below.refl _ _⟩
  case round =>
    obtain ⟨k, hk, rfl, rfl, hb⟩ := hrel
    by_cases hlt : k < L.length
    · have hrow := rowN_keep hb (HC.out k hlt)
      have HB := Lib.hid hb
      have HS := Lib.hid (sumE_succ L hlt)
      have hbd := sumE_bd (L.take k)
      rw [List.length_take, Nat.min_eq_left hk] at hbd
      have hob := oneE_bd L[k]
      clear hb
      generalize L[k] = e at *
      generalize sumE (L.take k) = s at *
      have h1 : -4611686018427387904 ≤ s := by omega
      have h2 : s ≤ 4611686018427387904 := by omega
      clear hbd
      go_wp2_with fail
      refine Calls.mono (rone_any e _) ?_
      rintro x w1 ⟨rfl, hb'⟩
      go_wp2
      go_roundw
      case rel => exact ⟨k + 1, by omega, by go_num, by rw [HS.out], gbelow hb' HB.out⟩
      case measure => simp [intOf]; omega
    · have e : k = L.length := by omega
      have E : Hid (L.take k = L) := Lib.hid (by rw [e, List.take_length])
      have HB := Lib.hid hb
      clear hb e
      go_wp2
      go_ret
      exact ⟨by rw [E.out]; rfl, HB.out⟩

theorem rsum_any (v : Value) (L : List Ev) (w : World) (h : EvSl w v L) (hL : L.length ≤ 4194304) :
    Calls Try.prog 12 #[v] w fun x w' => x = .returned (.int .i64 (sumE L)) ∧ Below w.heap.size w w' := by
  obtain ⟨a, cap, rfl, hc, hm, rfl | ⟨b, o, rfl, hrow⟩⟩ := h
  · go_enter Try.func12, Try.ntmps12
    go_wp2
    refine wp_loop_rounds 1 ?_
    rw [rounds_succ]
    go_wp2
    go_ret
    exact ⟨rfl, Below.refl _ _⟩
  · exact rsum_pos b o cap L w hrow hL


end Go.Proofs.Ytclmhofnliacjaa
