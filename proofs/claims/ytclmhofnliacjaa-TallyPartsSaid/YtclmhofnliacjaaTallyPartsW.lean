/- The walk of polyphonylaw12.TallyParts: it returns true, and what was there is as it was. No conditions. -/
import Derived.Test.YtclmhofnliacjaaTallyApp
import Derived.Test.YtclmhofnliacjaaTallyBy
namespace Go.Proofs.Ytclmhofnliacjaa.tallyParts
open Go.RowKit
attribute [local go_sem] bmax2_int bmin2_int bmax_two bmin_two blk_alloc blk_setRow blk_setCell blk_drew blk_drewN alloc_setRow cell_setRow_ne drew_setRow drewN_setRow fold_z0 vv_size vv_get vv_set
attribute [local go_sem ↓] exec_load_vv exec_store_vv exec_index_vv exec_eql_vv exec_neq_vv
attribute [local go_sem] loadVV_at storeVV_at indexVV_at eqVV_eql eqVV_neq ne_r2 ne_l2 ne_r3 ne_l3 ne_r4 ne_l4 ne_r5 ne_l5 ne_r6 ne_l6 ne_r7 ne_l7 ne_r8 ne_l8
set_option linter.unusedVariables false
set_option linter.unusedSimpArgs false
attribute [local go_sem] rowN_drew fold_zE evA_size evA_get0 evA_get1 evA_get2 evA_get19 evA_get20 evA_get21 evA_get22 evA_get23 evA_get24 evA_get25 loadEv_at storeEv_at rowN_ev_new
attribute [local go_sem ↓] exec_load_ev exec_store_ev
attribute [local go_sem] fold_ev1

theorem size_lt {w2 : World} {k : Nat} {o : Obj} (h : blk w2 k = some o) : k < w2.heap.size := by
  unfold blk at h
  exact (Array.getElem?_eq_some_iff.1 h).1

/-- the sum of the first k. -/
def upS (f : Nat → Int) : Nat → Int
  | 0 => 0
  | k + 1 => upS f k + f k
theorem upS_bd (f : Nat → Int) (B : Int) (h : ∀ k, -B ≤ f k ∧ f k ≤ B) : ∀ k : Nat, -(B * k) ≤ upS f k ∧ upS f k ≤ B * k
  | 0 => by simp [upS]
  | k + 1 => by
    have h1 := upS_bd f B h k
    have h2 := h k
    have h3 : B * ((k + 1 : Nat) : Int) = B * k + B := by rw [Int.natCast_add, Int.mul_add]; simp
    rw [h3]
    simp only [upS]
    omega
theorem upS_add (f g : Nat → Int) : ∀ k, upS (fun i => f i + g i) k = upS f k + upS g k
  | 0 => rfl
  | k + 1 => by simp only [upS, upS_add f g k]; omega
theorem upS_zero : ∀ k, upS (fun _ => 0) k = 0
  | 0 => rfl
  | k + 1 => by simp only [upS, upS_zero k]; omega
theorem upS_one (r : Int) (x : Int) : ∀ k : Nat, upS (fun i : Nat => if r = (i : Int) then x else 0) k = if 0 ≤ r ∧ r < k then x else 0
  | 0 => by simp only [upS]; split <;> omega
  | k + 1 => by
    simp only [upS, upS_one r x k]
    split <;> split <;> split <;> omega
theorem parts_sum : ∀ L : List Ev, (∀ e ∈ L, 0 ≤ e.r ∧ e.r < 16) → upS (byE L) 16 = sumE L
  | [], _ => by
    have : byE [] = fun _ => 0 := by funext i; simp [byE, ofE, sumE]
    rw [this, upS_zero]; rfl
  | e :: L, h => by
    have h1 := parts_sum L fun x hx => h x (List.mem_cons_of_mem _ hx)
    have h2 := h e List.mem_cons_self
    have h3 : byE (e :: L) = fun i : Nat => (if e.r = (i : Int) then oneE e else 0) + byE L i := by
      funext i
      show ofE ([e] ++ L) i = _
      rw [ofE_append, ofE_one]; rfl
    have h4 : sumE (e :: L) = oneE e + sumE L := by simp [sumE]
    rw [h3, upS_add, h1, upS_one, if_pos (show 0 ≤ e.r ∧ e.r < ((16 : Nat) : Int) from h2), h4]

theorem sumE_comm (L M : List Ev) : sumE (M ++ L) = sumE (L ++ M) := by rw [sumE_append, sumE_append, Int.add_comm]
theorem byE_comm (L M : List Ev) : byE (M ++ L) = byE (L ++ M) := by
  funext i; show ofE (M ++ L) i = ofE (L ++ M) i; rw [ofE_append, ofE_append, Int.add_comm]
theorem own_form {w : World} {base : Nat} {v : Value} {L : List Ev} (h : OwnEv w base v L) (hv : v.ownBlock ≠ none) : ∃ g cap, v = .slice (some ⟨g, 0, none⟩) L.length cap ∧ ∀ (i : Nat) (h : i < L.length), rowN 26 w g (0 + i * 26) = some (evA L[i]) := by
  have hs := h.sl
  rcases h.2 with ⟨rfl, _⟩ | ⟨g, cap, cur, rfl, _, _, _, _, _, _⟩
  · exact absurd rfl hv
  · obtain ⟨a', cap', he, hc, hm, h1 | ⟨b, o, rfl, hrow⟩⟩ := hs
    · subst h1; exact ⟨g, cap, rfl, fun i hi => absurd hi (by simp)⟩
    · simp only [Value.slice.injEq, Option.some.injEq, Addr.mk.injEq, true_and, and_true] at he
      obtain ⟨⟨rfl, rfl⟩, rfl⟩ := he
      exact ⟨_, cap, rfl, hrow⟩

set_option maxRecDepth 100000 in
set_option maxHeartbeats 4000000 in
theorem walk_ev (v u : Value) (a a2 : Option Addr) (cap cap2 : Nat) (L M : List Ev) (w : World) (hv : v = .slice a L.length cap) (hu : u = .slice a2 M.length cap2) (h : EvSl w v L) (h2 : EvSl w u M) :
    Calls Try.prog 3 #[v, u] w fun e w' => e = .returned (.bool true) ∧ Below w.heap.size w w' := by
  subst hv hu
  have HS := Lib.hid h
  have HU := Lib.hid h2
  clear h h2
  go_enter Try.func3, Try.ntmps3
  go_wp2_with fail
  refine Calls.mono (awake12_any _) ?_
  rintro e w2 ⟨rfl, hb'⟩
  have HB := Lib.hid hb'
  have HS2 := Lib.hid (HS.out.keep hb')
  have HU2 := Lib.hid (HU.out.keep hb')
  clear hb' HS HU
  by_cases hL : (L.length : Int) > 2000
  · go_wp2_with fail
    refine Calls.mono (awake12_any _) ?_
    rintro e w3 ⟨rfl, hb'⟩
    have HB3 := Lib.hid hb'
    clear hb'
    go_wp2
    go_ret
    exact ⟨rfl, gbelow HB3.out HB.out⟩
  by_cases hM : (M.length : Int) > 2000
  · go_wp2_with fail
    refine Calls.mono (awake12_any _) ?_
    rintro e w3 ⟨rfl, hb'⟩
    have HB3 := Lib.hid hb'
    clear hb'
    go_wp2
    go_ret
    exact ⟨rfl, gbelow HB3.out HB.out⟩
  have hL' : L.length ≤ 2000 := by omega
  have hM' : M.length ≤ 2000 := by omega
  have HL := Lib.hid hL'
  have HM := Lib.hid hM'
  clear hL' hM'
  go_wp2_with fail
  refine Calls.mono (sum_any _ L _ HS2.out (by have := HL.out; omega)) ?_
  rintro e w3 ⟨rfl, hb'⟩
  have HB3 := Lib.hid (gbelow hb' HB.out)
  have HS3 := Lib.hid (HS2.out.keep hb')
  have HU3 := Lib.hid (HU2.out.keep hb')
  clear hb' HB HS2 HU2
  go_wp2_with fail
  refine Calls.mono (sum_any _ M _ HU3.out (by have := HM.out; omega)) ?_
  rintro e w4 ⟨rfl, hb'⟩
  have HB4 := Lib.hid (gbelow hb' HB3.out)
  have HS4 := Lib.hid (HS3.out.keep hb')
  have HU4 := Lib.hid (HU3.out.keep hb')
  clear hb' HB3 HS3 HU3
  have hbL := sumE_bd L
  have hbM := sumE_bd M
  have h1 : -4611686018427387904 ≤ sumE L := by omega
  have h2 : sumE L ≤ 4611686018427387904 := by omega
  have h3 : -4611686018427387904 ≤ sumE M := by omega
  have h4 : sumE M ≤ 4611686018427387904 := by omega
  have h5 : -4611686018427387904 ≤ sumE L + sumE M := by omega
  have h6 : sumE L + sumE M ≤ 4611686018427387904 := by omega
  have E : Hid (sumE L + sumE M = sumE (L ++ M)) := Lib.hid (sumE_append L M).symm
  have kA : Hid (Below w4.heap.size w4 (w4.alloc (.cells #[] 33))) := Lib.hid ((Below.refl w4.heap.size w4).alloc (Nat.le_refl _) _)
  clear hbL hbM
  have N1 := Lib.hid (show ([] : List Ev).length + L.length ≤ 600000000000 by have := HL.out; simp; omega)
  have N2 := Lib.hid (show ([] ++ L : List Ev).length + M.length ≤ 600000000000 by have := HL.out; have := HM.out; simp; omega)
  have N3 := Lib.hid (show ([] : List Ev).length + M.length ≤ 600000000000 by have := HM.out; simp; omega)
  have N4 := Lib.hid (show ([] ++ M : List Ev).length + L.length ≤ 600000000000 by have := HL.out; have := HM.out; simp; omega)
  go_wp2_with (first
    | (at_builtin; refine wpList_append_evB rfl _ _ rfl w4.heap.size (.slice (some ⟨w4.heap.size, 0, none⟩) 0 0) _ [] L rfl rfl (OwnEv.made w4 _ (Nat.le_refl _)) (mk_block _ _ _) (HS4.out.keep kA.out) N1.out kA.out.size ?_; intro v1 w5 O1 D1 T1; have kB := Lib.hid (kA.out.trans D1.out))
    | (at_builtin; refine wpList_append_evB rfl _ _ rfl w4.heap.size v1 _ ([] ++ L) M rfl rfl O1.out T1.out (HU4.out.keep kB.out) N2.out kB.out.size ?_; intro v2 w6 O2 D2 T2; have kC := Lib.hid (kB.out.trans D2.out); have kD : Hid (Below w4.heap.size w4 (w6.alloc (.cells #[] 33))) := Lib.hid (kC.out.alloc kC.out.size _); have kE : Hid (Below w6.heap.size w6 (w6.alloc (.cells #[] 33))) := Lib.hid ((Below.refl w6.heap.size w6).alloc (Nat.le_refl _) _))
    | (at_builtin; refine wpList_append_evB rfl _ _ rfl w6.heap.size (.slice (some ⟨w6.heap.size, 0, none⟩) 0 0) _ [] M rfl rfl (OwnEv.made w6 _ (Nat.le_refl _)) (mk_block _ _ _) (HU4.out.keep kD.out) N3.out kE.out.size ?_; intro v3 w7 O3 D3 T3; have kF := Lib.hid (kE.out.trans D3.out))
    | (at_builtin; refine wpList_append_evB rfl _ _ rfl w6.heap.size v3 _ ([] ++ M) L rfl rfl O3.out T3.out (HS4.out.keep (gbelow kF.out kC.out)) N4.out kF.out.size ?_; intro v4 w8 O4 D4 T4; have kG := Lib.hid (kF.out.trans D4.out))
    | fail)
  obtain ⟨g, capx, rfl, hrx⟩ := own_form O2.out T2.out
  have HB8 := Lib.hid (gbelow kG.out (gbelow kC.out HB4.out))
  have HX8 : Hid (EvSl w8 (.slice (some ⟨g, 0, none⟩) ([] ++ L ++ M).length capx) (L ++ M)) := Lib.hid (O2.out.sl.keep kG.out)
  have HY8 : Hid (EvSl w8 v4 (M ++ L)) := Lib.hid O4.out.sl
  have HR8 : Hid (∀ (i : Nat) (h : i < (L ++ M).length), rowN 26 w8 g (0 + i * 26) = some (evA (L ++ M)[i])) := Lib.hid fun i hi => rowN_keep kG.out (hrx i hi)
  have hlX : (L ++ M).length ≤ 4000 := by have := HL.out; have := HM.out; simp; omega
  have hlY : (M ++ L).length ≤ 4000 := by have := HL.out; have := HM.out; simp; omega
  have ES := Lib.hid (sumE_comm L M)
  have EB := Lib.hid (byE_comm L M)
  have EL : ([] ++ L ++ M).length = (L ++ M).length := rfl
  clear hrx kA kB kC kD kE kF kG O1 O2 O3 O4 D1 D2 D3 D4 T1 T2 T3 T4 N1 N2 N3 N4 HS4 HU4 HB4
  rw [E.out] at h5 h6 ⊢
  generalize ([] ++ L ++ M).length = lx at *
  subst EL
  generalize L ++ M = X at *
  generalize M ++ L = Y at *
  refine Calls.mono (sum_any _ X _ HX8.out (by omega)) ?_
  rintro e w9 ⟨rfl, hb'⟩
  have HB9 := Lib.hid (gbelow hb' HB8.out)
  have HX9 := Lib.hid (HX8.out.keep hb')
  have HY9 := Lib.hid (HY8.out.keep hb')
  have HR9 : Hid (∀ (i : Nat) (h : i < X.length), rowN 26 w9 g (0 + i * 26) = some (evA X[i])) := Lib.hid fun i hi => rowN_keep hb' (HR8.out i hi)
  clear hb' HB8 HX8 HY8 HR8
  go_wp2_with fail
  refine Calls.mono (sum_any _ Y _ HY9.out (by omega)) ?_
  rintro e w10 ⟨rfl, hb'⟩
  rw [ES.out]
  have HB10 := Lib.hid (gbelow hb' HB9.out)
  have HX10 := Lib.hid (HX9.out.keep hb')
  have HY10 := Lib.hid (HY9.out.keep hb')
  have HR10 : Hid (∀ (i : Nat) (h : i < X.length), rowN 26 w10 g (0 + i * 26) = some (evA X[i])) := Lib.hid fun i hi => rowN_keep hb' (HR9.out i hi)
  clear hb' HB9 HX9 HY9 HR9
  go_wp2_with fail
  refine Calls.mono (by_any _ X _ HX10.out (by omega)) ?_
  rintro e w11 ⟨rfl, hb'⟩
  have HB11 := Lib.hid (gbelow hb' HB10.out)
  have HX11 := Lib.hid (HX10.out.keep hb')
  have HY11 := Lib.hid (HY10.out.keep hb')
  have HR11 : Hid (∀ (i : Nat) (h : i < X.length), rowN 26 w11 g (0 + i * 26) = some (evA X[i])) := Lib.hid fun i hi => rowN_keep hb' (HR10.out i hi)
  clear hb' HB10 HX10 HY10 HR10
  go_wp2_with fail
  refine Calls.mono (by_any _ Y _ HY11.out (by omega)) ?_
  rintro e w12 ⟨rfl, hb'⟩
  rw [EB.out]
  have hsame := same16_refl (byE X)
  have HB12 := Lib.hid (gbelow hb' HB11.out)
  have HX12 := Lib.hid (HX11.out.keep hb')
  have HR12 : Hid (∀ (i : Nat) (h : i < X.length), rowN 26 w12 g (0 + i * 26) = some (evA X[i])) := Lib.hid fun i hi => rowN_keep hb' (HR11.out i hi)
  clear hb' HB11 HX11 HY11 HR11
  go_wp2_with fail
  refine Calls.mono (by_any _ X _ HX12.out (by omega)) ?_
  rintro e w13 ⟨rfl, hb'⟩
  have HB13 := Lib.hid (gbelow hb' HB12.out)
  have HR13 : Hid (∀ (i : Nat) (h : i < X.length), rowN 26 w13 g (0 + i * 26) = some (evA X[i])) := Lib.hid fun i hi => rowN_keep hb' (HR12.out i hi)
  clear hb' HB12 HX12 HR12
  have hB : ∀ k : Nat, -4503599627370496 ≤ byE X k ∧ byE X k ≤ 4503599627370496 := fun k => by
    have := ofE_bd X (k : Int)
    unfold byE
    omega
  have HBd := Lib.hid (upS_bd (byE X) 4503599627370496 hB)
  have HPS := Lib.hid (parts_sum X)
  have HbB := Lib.hid hB
  clear hB
  generalize byE X = B at *
  go_wp2_with fail
  have k1 := Lib.hid (gblk_new w13 (Obj.cells (vv B) 25))
  have k0 := Lib.hid (HB13.out.alloc HB13.out.size (Obj.cells (vv B) 25))
  have k2 : Hid (∀ (i : Nat) (h : i < X.length), rowN 26 (w13.alloc (Obj.cells (vv B) 25)) g (0 + i * 26) = some (evA X[i])) := Lib.hid fun i hi => rowN_keep ((Below.refl w13.heap.size w13).alloc (Nat.le_refl _) _) (HR13.out i hi)
  clear HB13 HR13
  generalize w13.alloc (Obj.cells (vv B) 25) = w14 at *
  generalize w13.heap.size = g1 at *
  go_loopw [9, 59] (fun al i wr => ∃ k : Nat, k ≤ 16 ∧ i = .int .i64 k ∧ al = .int .i64 (upS B k) ∧ Below w14.heap.size w14 wr) (fun _ i _ => 16 - (intOf i).toNat)
  case atStart => exact ⟨0, by omega, rfl, rfl, Below.refl _ _⟩
  case round =>
    obtain ⟨k, hk, rfl, rfl, hb⟩ := hrel
    by_cases hlt : k < 16
    · have hc : wr.cell? ⟨g1, k, none⟩ = some (.int .i64 (B k)) := (cell_of_row wr g1 k _ _ _ (gblk hb k1.out)).trans (vv_get B hlt)
      have hu := HBd.out k
      have hbk := HbB.out k
      have HBk := Lib.hid hb
      have HSu := Lib.hid (show upS B (k + 1) = upS B k + B k from rfl)
      clear hb
      generalize B k = y at *
      generalize upS B k = x at *
      have q1 : -4611686018427387904 ≤ x := by omega
      have q2 : x ≤ 4611686018427387904 := by omega
      clear hu
      go_wp2
      go_roundw
      case rel => exact ⟨k + 1, by omega, by go_num, by rw [HSu.out], HBk.out⟩
      case measure => simp [intOf]; omega
    · have e : k = 16 := by omega
      subst e
      have HBk := Lib.hid hb
      clear hb hk hlt
      generalize upS B 16 = S at *
      go_wp2_with fail
      have HR15 : Hid (∀ (i : Nat) (h : i < X.length), rowN 26 wr g (0 + i * 26) = some (evA X[i])) := Lib.hid fun i hi => rowN_keep HBk.out (k2.out i hi)
      have HB15 := Lib.hid (gbelow HBk.out k0.out)
      clear HBk k0 k1 k2
      go_loopw [70] (fun i wq => ∃ k : Nat, k ≤ X.length ∧ i = .int .i64 k ∧ (∀ (j : Nat) (h : j < X.length), j < k → 0 ≤ X[j].r ∧ X[j].r < 16) ∧ Below wr.heap.size wr wq) (fun i _ => X.length - (intOf i).toNat)
      case atStart => exact ⟨0, by omega, rfl, fun j _ hj => absurd hj (by omega), Below.refl _ _⟩
      case round =>
        obtain ⟨k, hk, rfl, hall, hb⟩ := hrel
        by_cases hlt : k < X.length
        · have hc := (rowN_cells (rowN_keep hb (HR15.out k hlt))).2 0 (by omega)
          rw [evA_get0, Nat.add_zero, Nat.zero_add] at hc
          have HBq := Lib.hid hb
          by_cases hr : 0 ≤ X[k].r ∧ X[k].r < 16
          · have HA : Hid (∀ (j : Nat) (h : j < X.length), j < k + 1 → 0 ≤ X[j].r ∧ X[j].r < 16) := Lib.hid fun j hj hjk => by
              by_cases e : j = k
              · subst e; exact hr
              · exact hall j hj (by omega)
            clear hb hall
            obtain ⟨r1, r2⟩ := hr
            generalize X[k].r = r at *
            go_wp2
            go_roundw
            case rel => exact ⟨_, _, _, _, _, _, _, _, _, _, _, _, _, _, _, _, _, _, _, _, _, _, ⟨k + 1, by omega, by go_num, HA.out, HBq.out⟩, rfl⟩
            case measure => simp [intOf]; omega
          · clear hb hall
            by_cases r1 : 0 ≤ X[k].r
            · have r2 : 16 ≤ X[k].r := by omega
              clear hr
              generalize X[k].r = r at *
              go_wp2
              go_ret
              exact ⟨rfl, gbelow HBq.out HB15.out⟩
            · have r2 : X[k].r < 0 := by omega
              clear hr
              generalize X[k].r = r at *
              go_wp2
              go_ret
              exact ⟨rfl, gbelow HBq.out HB15.out⟩
        · have EQ : S = sumE X := HPS.out fun e he => by
            obtain ⟨j, hj, rfl⟩ := List.getElem_of_mem he
            exact hall j hj (by omega)
          have HBq := Lib.hid hb
          clear hb hall
          subst EQ
          go_wp2
          go_ret
          exact ⟨by simp, gbelow HBq.out HB15.out⟩

theorem walk (a : Option Addr) (len cap : Nat) (a2 : Option Addr) (len2 cap2 : Nat) (w : World) (hl : len ≤ cap) (hm : cap ≤ maxLen) (hr : RowsIn [.int .i64, .int .i64, .int .i64, .int .i64, .int .i64, .int .i64, .int .i64, .int .i64, .int .i64, .int .i64, .int .i64, .int .i64, .int .i64, .int .i64, .int .i64, .int .i64, .int .i64, .int .i64, .int .i64, .int .i64, .string, .string, .string, .int .i64, .int .i64, .int .i64] w a len)
    (hl2 : len2 ≤ cap2) (hm2 : cap2 ≤ maxLen) (hr2 : RowsIn [.int .i64, .int .i64, .int .i64, .int .i64, .int .i64, .int .i64, .int .i64, .int .i64, .int .i64, .int .i64, .int .i64, .int .i64, .int .i64, .int .i64, .int .i64, .int .i64, .int .i64, .int .i64, .int .i64, .int .i64, .string, .string, .string, .int .i64, .int .i64, .int .i64] w a2 len2) :
    Calls Try.prog 3 #[.slice a len cap, .slice a2 len2 cap2] w fun e w' => e = .returned (.bool true) ∧ Below w.heap.size w w' := by
  obtain ⟨L, rfl, hL, _⟩ := evs_of hl hm hr
  obtain ⟨M, rfl, hM, _⟩ := evs_of hl2 hm2 hr2
  exact walk_ev _ _ a a2 cap cap2 L M w rfl rfl hL hM

end Go.Proofs.Ytclmhofnliacjaa.tallyParts
