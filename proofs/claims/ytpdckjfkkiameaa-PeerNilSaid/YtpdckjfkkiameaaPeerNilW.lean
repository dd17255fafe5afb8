/- The walk of polyphonylaw20.PeerNil: it returns true, and what was there is as it was. No conditions. -/
import Derived.Test.YtpdckjfkkiameaaPrAwake
import Derived.Test.YtpdckjfkkiameaaPrSame2
import Derived.Test.YtpdckjfkkiameaaPrOp
namespace Go.Proofs.Ytpdckjfkkiameaa.peerNil
open Go.RowKit
attribute [local go_sem] bmax2_int bmin2_int bmax_two bmin_two blk_alloc blk_setRow blk_setCell blk_drew blk_drewN alloc_setRow cell_setRow_ne drew_setRow drewN_setRow fold_z0 vv_size vv_get vv_set
attribute [local go_sem ↓] exec_load_vv exec_store_vv exec_index_vv exec_eql_vv exec_neq_vv
attribute [local go_sem] loadVV_at storeVV_at indexVV_at eqVV_eql eqVV_neq ne_r2 ne_l2 ne_r3 ne_l3 ne_r4 ne_l4 ne_r5 ne_l5 ne_r6 ne_l6 ne_r7 ne_l7 ne_r8 ne_l8
set_option linter.unusedVariables false
set_option linter.unusedSimpArgs false
attribute [local go_sem] rowN_drew fold_zE evA_size evA_get0 evA_get1 evA_get2 evA_get19 evA_get20 evA_get21 evA_get22 evA_get23 evA_get24 evA_get25 loadEv_at storeEv_at rowN_ev_new
attribute [local go_sem ↓] exec_load_ev exec_store_ev
attribute [local go_sem] loadVV_27 loadVV_43

theorem trim_none (v : Nat → Int) (w : World) :
    Calls Try.prog 16 #[.pointer none, .agg (vv v)] w fun e w' => e = .returned (.int .i64 0) ∧ Below w.heap.size w w' := by
  go_enter Try.func16, Try.ntmps16
  go_wp2
  go_ret
  exact ⟨rfl, by go_grown⟩
theorem gbel {W W' w0 : World} {B : Nat} (h : Below W.heap.size W W') (hb : Below B w0 W) (hB : B ≤ W.heap.size) : Below B w0 W' := hb.trans (h.mono hB)

/-- the times of events from place k on, in a list's own block. -/
def XB (gx : Nat) (L : List Ev) (k : Nat) (w : World) : Prop := ∃ cs, blk w gx = some (.cells cs 39 (0, 0)) ∧ ∀ (j : Nat) (h : j < L.length), k ≤ j → cs[j * 26 + 2]? = some (.int .i64 L[j].t)
theorem own_times {w : World} {base : Nat} {x : Value} {L : List Ev} (h : OwnEv w base x L) : ∃ ax cx gx, x = .slice ax L.length cx ∧ (L.length = 0 ∨ ax = some ⟨gx, 0, none⟩ ∧ base ≤ gx ∧ XB gx L 0 w) := by
  rcases h.2 with ⟨rfl, h0⟩ | ⟨g, cap, cur, rfl, hb, hg, hc, hm, hs, ht⟩
  · exact ⟨none, 0, 0, by rw [h0], .inl h0⟩
  · refine ⟨_, cap, g, rfl, .inr ⟨rfl, hb, cur, hg, fun j hj _ => ?_⟩⟩
    have h1 : j * 26 + 2 < L.length * 26 := by
      have := Nat.mul_le_mul_right 26 (show j + 1 ≤ L.length from hj)
      omega
    have h2 := evs_get L j 2 hj (by omega)
    rw [← ht, List.getElem?_take_of_lt h1, Array.getElem?_toList] at h2
    rw [h2]; rfl
theorem XB.cell {gx : Nat} {L : List Ev} {k : Nat} {w : World} (h : XB gx L k w) (hk : k < L.length) : w.cell? ⟨gx, k * 26 + 2, none⟩ = some (.int .i64 L[k].t) := by
  obtain ⟨cs, h1, h2⟩ := h
  rw [cell_of_row w gx _ _ _ _ h1, h2 k hk (Nat.le_refl _)]
theorem XB.frozen {gx : Nat} {L : List Ev} {k : Nat} {w : World} (h : XB gx L k w) (i : Nat) : w.frozen? ⟨gx, i, none⟩ = false := by
  obtain ⟨cs, h1, h2⟩ := h
  exact frozen_of_row w gx i _ _ h1
theorem XB.set {gx : Nat} {L : List Ev} {k : Nat} {w : World} (h : XB gx L k w) (val : Value) : XB gx L (k + 1) (w.setCell ⟨gx, k * 26 + 2, none⟩ val) := by
  obtain ⟨cs, h1, h2⟩ := h
  refine ⟨_, by rw [blk_setCell, if_pos rfl, h1], fun j hj hk => ?_⟩
  rw [Array.getElem?_setIfInBounds, if_neg (by omega)]
  exact h2 j hj (by omega)

set_option maxRecDepth 100000 in
set_option maxHeartbeats 4000000 in
theorem walk_ev (kk : Int) (e0 : Ev) (u1 u2 : Nat → Int) (nn : Int) (x : Value) (a : Option Addr) (cap : Nat) (L : List Ev) (w : World) (hx : x = .slice a L.length cap) (h : EvSl w x L) :
    Calls Try.prog 4 #[.agg (opP kk e0 u1 u2 nn), x] w fun e w' => e = .returned (.bool true) ∧ Below w.heap.size w w' := by
  subst hx
  have HS := Lib.hid h
  clear h
  go_enter Try.func4, Try.ntmps4
  go_wp2_with fail
  have k0 := Lib.hid ((Below.refl w.heap.size w).alloc (Nat.le_refl _) (Obj.cells (opP kk e0 u1 u2 nn) 41))
  have o0 := opAt_blk (gblk_new w (Obj.cells (opP kk e0 u1 u2 nn) 41))
  have hlt0 : w.heap.size < (w.alloc (Obj.cells (opP kk e0 u1 u2 nn) 41)).heap.size := by simp
  generalize w.alloc (Obj.cells (opP kk e0 u1 u2 nn) 41) = w1 at *
  have HB : Hid (∀ wr, Below w.heap.size w wr → EvSl wr (.slice a L.length cap) L) := Lib.hid fun wr hb => HS.out.keep hb
  clear HS
  generalize hg2 : w.heap.size = g2 at *
  refine Calls.mono (awake20_any _) ?_
  rintro e w2 ⟨rfl, hb'⟩
  replace k0 := Lib.hid (gbel hb' k0.out (Nat.le_of_lt hlt0))
  replace o0 := o0.keep hb'
  have hlt1 := Nat.lt_of_lt_of_le hlt0 hb'.size
  clear hb' hlt0
  by_cases hlen : (L.length : Int) > 200
  · have O0 := Lib.hid o0
    clear o0
    go_wp2_with fail
    refine Calls.mono (awake20_any _) ?_
    rintro e w3 ⟨rfl, hb'⟩
    replace k0 := Lib.hid (gbel hb' k0.out (Nat.le_of_lt hlt1))
    clear hb'
    go_wp2
    go_ret
    exact ⟨rfl, k0.out.mono (Nat.le_of_eq hg2)⟩
  have r1 := o0.ev
  rw [Nat.zero_add] at r1
  have O0 := Lib.hid o0
  clear o0
  go_wp2_with fail
  refine Calls.mono (padd_none e0 w2) ?_
  rintro e w3 ⟨rfl, hb'⟩
  replace k0 := Lib.hid (gbel hb' k0.out (Nat.le_of_lt hlt1))
  replace O0 := Lib.hid (O0.out.keep hb')
  have hlt2 := Nat.lt_of_lt_of_le hlt1 hb'.size
  clear hb' hlt1 r1
  go_wp2_with fail
  refine Calls.mono (plen_none w3) ?_
  rintro e w4 ⟨rfl, rfl⟩
  go_wp2_with fail
  refine Calls.mono (pevents_none _) ?_
  rintro e w5 ⟨rfl, rfl⟩
  have r2 := O0.out.v
  rw [Nat.zero_add] at r2
  go_wp2_with fail
  refine Calls.mono (trim_none u1 _) ?_
  rintro e w6 ⟨rfl, hb'⟩
  replace k0 := Lib.hid (gbel hb' k0.out (Nat.le_of_lt hlt2))
  replace O0 := Lib.hid (O0.out.keep hb')
  have hlt3 := Nat.lt_of_lt_of_le hlt2 hb'.size
  clear hb' hlt2 r2
  have r2 := O0.out.v
  rw [Nat.zero_add] at r2
  have r3 := O0.out.u
  rw [Nat.zero_add] at r3
  have c4 := O0.out.n
  rw [Nat.zero_add] at c4
  go_wp2_with fail
  refine Calls.mono (for_none u1 u2 nn _) ?_
  rintro e w7 ⟨rfl, hb'⟩
  replace k0 := Lib.hid (gbel hb' k0.out (Nat.le_of_lt hlt3))
  have hlt4 := Nat.lt_of_lt_of_le hlt3 hb'.size
  clear hb' hlt3 r2 r3 c4 O0
  go_wp2_with fail
  refine Calls.mono (pnew_any w7) ?_
  rintro e w8 ⟨rfl, rfl⟩
  have k1 := log_new w7 g2 (Nat.le_of_lt hlt4)
  replace k0 := Lib.hid (k0.out.alloc (Nat.le_of_lt hlt4) (Obj.cells #[.slice none 0 0] 31))
  generalize w7.alloc (Obj.cells #[.slice none 0 0] 31) = w8 at *
  generalize w7.heap.size = g at *
  have K1 : Hid (LOG w8 g2 g (.slice none 0 0) (L.take 0)) := Lib.hid k1
  clear k1
  go_wp2_with fail
  go_loopw [55] (fun i wr => ∃ (k : Nat) (v : Value), k ≤ L.length ∧ i = .int .i64 k ∧ Below g2 w wr ∧ LOG wr g2 g v (L.take k)) (fun i _ => L.length - (intOf i).toNat)
  case atStart => exact ⟨0, _, by omega, rfl, k0.out, K1.out⟩
  case round =>
    obtain ⟨k, v, hk, rfl, q0, q1⟩ := hrel
    have Q0 := Lib.hid q0
    have Q1 := Lib.hid q1
    clear q0 q1
    by_cases hlt : k < L.length
    · obtain ⟨b, o, rfl, hbl, hr⟩ := (HB.out wr Q0.out).row hlt
      have hsu := Lib.hid (List.take_succ_eq_append_getElem hlt)
      generalize L[k] = x at *
      go_wp2_with fail
      refine Calls.mono (padd_any g2 g v _ x wr Q1.out (by have := List.length_take_le k L; omega)) ?_
      rintro e w9 ⟨rfl, hF, v', k3, _⟩
      have R0 := Lib.hid (hF.below (LogX.ge Q1.out) (by have := Q1.out.lt; omega) Q0.out)
      have R1 := Lib.hid k3
      clear hF k3 Q0 Q1 hr
      go_wp2
      go_roundw
      case rel => exact ⟨k + 1, v', by omega, by go_num, R0.out, by rw [hsu.out]; exact R1.out⟩
      case measure => simp [intOf]; omega
    · have e : k = L.length := by omega
      subst e
      rw [List.take_length] at Q1
      go_wp2_with fail
      refine Calls.mono (pevents_any g2 g v L wr Q1.out (by omega)) ?_
      rintro e w9 ⟨x, rfl, hb', ho⟩
      replace Q0 := Lib.hid (gbel hb' Q0.out (by have := Q1.out.lt; omega))
      have hvl : ∀ k, LogX g v k → k < wr.heap.size := fun k hx => by
        rcases hx with rfl | e
        · exact Q1.out.lt
        · exact (Q1.out.own.lt k e.symm).2
      replace Q1 := Lib.hid (Q1.out.keep hb')
      obtain ⟨ax, cx, gx, rfl, hX⟩ := own_times ho
      have HX : Hid (L.length = 0 ∨ ax = some ⟨gx, 0, none⟩ ∧ wr.heap.size ≤ gx ∧ XB gx L 0 w9) := Lib.hid hX
      have HN : Hid (L.length = 0 ∨ (∀ k, LogX g v k → ¬ k = gx) ∧ g2 < gx ∧ ax = some ⟨gx, 0, none⟩) := Lib.hid (by
        rcases hX with h1 | ⟨h1, h2, h3⟩
        · exact .inl h1
        · exact .inr ⟨fun k hk e => by have := hvl k hk; omega, by have := hvl g (.inl rfl); omega, h1⟩)
      have HX2 : Hid (L.length = 0 ∨ XB gx L 0 w9) := Lib.hid (hX.imp_right fun h => h.2.2)
      clear hb' ho hX hvl HX K1 k0
      go_wp2_with fail
      go_loopw [69] (fun i wq => ∃ k : Nat, k ≤ L.length ∧ i = .int .i64 k ∧ Below g2 w wq ∧ LOG wq g2 g v L ∧ (L.length = 0 ∨ XB gx L k wq)) (fun i _ => L.length - (intOf i).toNat)
      case atStart => exact ⟨0, by omega, rfl, Q0.out, Q1.out, HX2.out⟩
      case round =>
        obtain ⟨k, hk, rfl, q0, q1, q2⟩ := hrel
        replace Q0 := Lib.hid q0
        replace Q1 := Lib.hid q1
        clear q0 q1
        by_cases hlt : k < L.length
        · rcases HN.out with h0 | ⟨hne, hgx, rfl⟩
          · omega
          rcases q2 with h0 | q2
          · omega
          have hc := q2.cell hlt
          have hf := q2.frozen (k * 26 + 2)
          have R2 : Hid (∀ val, XB gx L (k + 1) (wr.setCell ⟨gx, k * 26 + 2, none⟩ val)) := Lib.hid fun val => q2.set val
          have R1 : Hid (∀ val, LOG (wr.setCell ⟨gx, k * 26 + 2, none⟩ val) g2 g v L) := Lib.hid fun val => Q1.out.fr (Fr.setCell (X := fun k => k = gx) wr gx _ val rfl) hne
          have R0 : Hid (∀ val, Below g2 w (wr.setCell ⟨gx, k * 26 + 2, none⟩ val)) := Lib.hid fun val => (Fr.setCell (X := fun k => k = gx) wr gx _ val rfl).below (fun k hk e => by omega) (by have := Q1.out.lt; have := Q1.out.base_le; omega) Q0.out
          clear q2 hne
          generalize L[k].t = tt at *
          go_wp2
          go_roundw
          case rel => exact ⟨k + 1, by omega, by go_num, R0.out _, R1.out _, .inr (R2.out _)⟩
          case measure => simp [intOf]; omega
        · clear q2
          go_wp2_with fail
          refine Calls.mono (pevents_any g2 g v L wr Q1.out (by omega)) ?_
          rintro e w10 ⟨y, rfl, hb', ho⟩
          replace Q0 := Lib.hid (gbel hb' Q0.out (by have := Q1.out.lt; have := Q1.out.base_le; omega))
          have hsz : g2 ≤ w10.heap.size := by have := Q1.out.lt; have := Q1.out.base_le; have := hb'.size; omega
          have HO := Lib.hid ho.sl
          clear hb' ho
          go_wp2_with fail
          refine Calls.mono (same_any y _ L w10 HO.out (HB.out w10 Q0.out)) ?_
          rintro e w11 ⟨rfl, hb'⟩
          replace Q0 := Lib.hid (gbel hb' Q0.out hsz)
          clear hb'
          go_wp2
          go_ret
          first
            | exact ⟨rfl, Q0.out⟩
            | exact ⟨rfl, Q0.out.mono (Nat.le_of_eq hg2)⟩

theorem walk (c0 : List Value) (a : Option Addr) (len cap : Nat) (w : World) (h0 : LeavesOk [.int .i64, .int .i64, .int .i64, .int .i64, .int .i64, .int .i64, .int .i64, .int .i64, .int .i64, .int .i64, .int .i64, .int .i64, .int .i64, .int .i64, .int .i64, .int .i64, .int .i64, .int .i64, .int .i64, .int .i64, .int .i64, .string, .string, .string, .int .i64, .int .i64, .int .i64, .int .i64, .int .i64, .int .i64, .int .i64, .int .i64, .int .i64, .int .i64, .int .i64, .int .i64, .int .i64, .int .i64, .int .i64, .int .i64, .int .i64, .int .i64, .int .i64, .int .i64, .int .i64, .int .i64, .int .i64, .int .i64, .int .i64, .int .i64, .int .i64, .int .i64, .int .i64, .int .i64, .int .i64, .int .i64, .int .i64, .int .i64, .int .i64, .int .i64] c0) (hl : len ≤ cap) (hm : cap ≤ maxLen) (hr : RowsIn [.int .i64, .int .i64, .int .i64, .int .i64, .int .i64, .int .i64, .int .i64, .int .i64, .int .i64, .int .i64, .int .i64, .int .i64, .int .i64, .int .i64, .int .i64, .int .i64, .int .i64, .int .i64, .int .i64, .int .i64, .string, .string, .string, .int .i64, .int .i64, .int .i64] w a len) :
    Calls Try.prog 4 #[.agg c0.toArray, .slice a len cap] w fun e w' => e = .returned (.bool true) ∧ Below w.heap.size w w' := by
  obtain ⟨k, e, v, u, n, ec, _, _⟩ := op_of h0
  obtain ⟨L, rfl, hL, _⟩ := evs_of hl hm hr
  rw [ec]
  exact walk_ev k e v u n _ a cap L w rfl hL

end Go.Proofs.Ytpdckjfkkiameaa.peerNil
