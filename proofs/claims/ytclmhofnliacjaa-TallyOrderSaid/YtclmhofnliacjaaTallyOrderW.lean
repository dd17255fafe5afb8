/- The walk of polyphonylaw12.TallyOrder: it returns true, and what was there is as it was. No conditions. -/
import Derived.Test.YtclmhofnliacjaaTallyApp
import Derived.Test.YtclmhofnliacjaaTallyBy
import Derived.Test.YtclmhofnliacjaaTallyCheck
namespace Go.Proofs.Ytclmhofnliacjaa.tallyOrder
open Go.RowKit
attribute [local go_sem] bmax2_int bmin2_int bmax_two bmin_two blk_alloc blk_setRow blk_setCell blk_drew blk_drewN alloc_setRow cell_setRow_ne drew_setRow drewN_setRow fold_z0 vv_size vv_get vv_set
attribute [local go_sem ↓] exec_load_vv exec_store_vv exec_index_vv exec_eql_vv exec_neq_vv
attribute [local go_sem] loadVV_at storeVV_at indexVV_at eqVV_eql eqVV_neq ne_r2 ne_l2 ne_r3 ne_l3 ne_r4 ne_l4 ne_r5 ne_l5 ne_r6 ne_l6 ne_r7 ne_l7 ne_r8 ne_l8
set_option linter.unusedVariables false
set_option linter.unusedSimpArgs false
attribute [local go_sem] rowN_drew fold_zE evA_size evA_get0 evA_get1 evA_get2 evA_get19 evA_get20 evA_get21 evA_get22 evA_get23 evA_get24 evA_get25 loadEv_at storeEv_at rowN_ev_new
attribute [local go_sem ↓] exec_load_ev exec_store_ev
attribute [local go_sem] fold_ev1

theorem sumE_rev (L : List Ev) : sumE L.reverse = sumE L := by
  induction L with
  | nil => rfl
  | cons e L ih =>
    have h : sumE (e :: L) = oneE e + sumE L := by simp [sumE]
    rw [List.reverse_cons, sumE_append, ih, sumE_one, h, Int.add_comm]
theorem byE_rev (L : List Ev) : byE L.reverse = byE L := by
  funext i
  unfold byE ofE
  rw [List.filter_reverse, sumE_rev]
theorem checkI_rev (L : List Ev) (n : Int) : checkI L.reverse n = checkI L n := by unfold checkI; rw [sumE_rev]
theorem rev_step (L : List Ev) {j : Nat} (h : j < L.length) : (L.drop (j + 1)).reverse ++ [L[j]] = (L.drop j).reverse := by
  rw [List.drop_eq_getElem_cons h, List.reverse_cons]
theorem evsl_one (w : World) (e : Ev) : EvSl (w.alloc (.cells (evA e) 33)) (.slice (some ⟨w.heap.size, 0, none⟩) 1 1) [e] :=
  evsl_blk (L := [e]) (Nat.le_refl 1) (by decide) (gblk_new w _) fun j hj => by rw [← Array.getElem?_toList]; exact congrArg (fun l : List Value => l[j]?) (show (evA e).toList = evs [e] from by simp [evs])

set_option maxRecDepth 100000 in
set_option maxHeartbeats 4000000 in
theorem walk_ev (v : Value) (a : Option Addr) (cap : Nat) (L : List Ev) (n : Int) (w : World) (hv : v = .slice a L.length cap) (h : EvSl w v L) :
    Calls Try.prog 6 #[v, .int .i64 n] w fun e w' => e = .returned (.bool true) ∧ Below w.heap.size w w' := by
  subst hv
  have HS := Lib.hid h
  clear h
  go_enter Try.func6, Try.ntmps6
  go_wp2_with fail
  refine Calls.mono (awake12_any _) ?_
  rintro e w2 ⟨rfl, hb'⟩
  have HB := Lib.hid hb'
  have HS2 := Lib.hid (HS.out.keep hb')
  clear hb' HS
  by_cases hL : (L.length : Int) > 2000
  · go_wp2_with fail
    refine Calls.mono (awake12_any _) ?_
    rintro e w3 ⟨rfl, hb'⟩
    have HB3 := Lib.hid hb'
    clear hb'
    go_wp2
    go_ret
    exact ⟨rfl, gbelow HB3.out HB.out⟩
  · have hL' : L.length ≤ 2000 := by omega
    have HL := Lib.hid hL'
    clear hL'
    go_wp2_with fail
    go_loopw [5, 6] (fun m i wr => ∃ j : Nat, j ≤ L.length ∧ i = .int .i64 (j - 1) ∧ OwnEv wr w2.heap.size m (L.drop j).reverse ∧ Below w2.heap.size w2 wr) (fun _ i _ => (intOf i + 1).toNat)
    case atStart => exact ⟨L.length, by omega, rfl, by rw [List.drop_length]; exact OwnEv.nil _ _, Below.refl _ _⟩
    case round =>
      obtain ⟨j, hj, rfl, ho, hb⟩ := hrel
      by_cases h0 : j = 0
      · subst h0
        rw [show ((0 : Nat) : Int) - 1 = -1 from rfl]
        rw [List.drop_zero] at ho
        have HSk := Lib.hid (HS2.out.keep hb)
        have HOk := Lib.hid ho.sl
        have HBk := Lib.hid (gbelow (hb.mono (Nat.le_refl _)) HB.out)
        have HLr := Lib.hid (show L.reverse.length ≤ 4194304 by have := HL.out; simp; omega)
        have HLl := Lib.hid (show L.length ≤ 4194304 by have := HL.out; omega)
        have HSR := Lib.hid (sumE_rev L)
        have HBR := Lib.hid (byE_rev L)
        have HCR := Lib.hid (checkI_rev L n)
        clear ho hb
        generalize L.reverse = M at *
        go_wp2_with fail
        refine Calls.mono (sum_any _ L _ HSk.out HLl.out) ?_
        rintro e w5 ⟨rfl, hb'⟩
        have HB5 := Lib.hid (gbelow hb' HBk.out)
        have HS5 := Lib.hid (HSk.out.keep hb')
        have HO5 := Lib.hid (HOk.out.keep hb')
        clear hb' HSk HOk HBk
        go_wp2_with fail
        refine Calls.mono (sum_any _ M _ HO5.out HLr.out) ?_
        rintro e w6 ⟨rfl, hb'⟩
        have HB6 := Lib.hid (gbelow hb' HB5.out)
        have HS6 := Lib.hid (HS5.out.keep hb')
        have HO6 := Lib.hid (HO5.out.keep hb')
        clear hb' HS5 HO5 HB5
        rw [HSR.out]
        go_wp2_with fail
        refine Calls.mono (by_any _ L _ HS6.out HLl.out) ?_
        rintro e w7 ⟨rfl, hb'⟩
        have HB7 := Lib.hid (gbelow hb' HB6.out)
        have HS7 := Lib.hid (HS6.out.keep hb')
        have HO7 := Lib.hid (HO6.out.keep hb')
        clear hb' HS6 HO6 HB6
        go_wp2_with fail
        refine Calls.mono (by_any _ M _ HO7.out HLr.out) ?_
        rintro e w8 ⟨rfl, hb'⟩
        have HB8 := Lib.hid (gbelow hb' HB7.out)
        have HS8 := Lib.hid (HS7.out.keep hb')
        have HO8 := Lib.hid (HO7.out.keep hb')
        clear hb' HS7 HO7 HB7
        rw [HBR.out]
        have hsame := same16_refl (byE L)
        go_wp2_with fail
        refine Calls.mono (check_any _ L n _ HS8.out HLl.out) ?_
        rintro e w9 ⟨rfl, hb'⟩
        have HB9 := Lib.hid (gbelow hb' HB8.out)
        have HO9 := Lib.hid (HO8.out.keep hb')
        clear hb' HS8 HO8 HB8
        go_wp2_with fail
        refine Calls.mono (check_any _ M n _ HO9.out HLr.out) ?_
        rintro e w10 ⟨rfl, hb'⟩
        have HB10 := Lib.hid (gbelow hb' HB9.out)
        clear hb' HO9 HB9
        rw [HCR.out]
        go_wp2
        go_ret
        exact ⟨rfl, HB10.out⟩
      · obtain ⟨k, rfl⟩ : ∃ k, j = k + 1 := ⟨j - 1, by omega⟩
        have hi : ((k + 1 : Nat) : Int) - 1 = k := by omega
        rw [hi]
        have hk : k < L.length := by omega
        obtain ⟨a', cap', he, hc, hm, h1 | ⟨b, o, rfl, hrow⟩⟩ := HS2.out.keep hb
        · subst h1; simp at hk
        · simp only [Value.slice.injEq, true_and] at he
          obtain ⟨rfl, rfl⟩ := he
          have hr := hrow k hk
          have HR := Lib.hid (rev_step L hk)
          have hlen : (L.drop (k + 1)).reverse.length ≤ 2000 := by have := HL.out; simp; omega
          have HB4 := Lib.hid hb
          clear hrow hb
          generalize L[k] = e at *
          generalize (L.drop (k + 1)).reverse = M at *
          have hsz := HB4.out.size
          go_wp2_with (at_builtin; refine wpList_append_ev rfl _ _ rfl w2.heap.size u5 _ M [e] rfl rfl (ho.alloc _) (evsl_one _ _) (by simp; omega) (by simp; omega) ?_; intro v1 w4 ho1 hg1 hat1)
          refine ⟨⟨k, by omega, rfl, by rw [← HR.out]; exact ho1, ?_⟩, by simp [intOf]⟩
          exact grown_below hg1 (ho.alloc _) (by simp; omega) (HB4.out.alloc hsz _)

theorem walk (a : Option Addr) (len cap : Nat) (n : Int) (w : World) (hl : len ≤ cap) (hm : cap ≤ maxLen) (hr : RowsIn [.int .i64, .int .i64, .int .i64, .int .i64, .int .i64, .int .i64, .int .i64, .int .i64, .int .i64, .int .i64, .int .i64, .int .i64, .int .i64, .int .i64, .int .i64, .int .i64, .int .i64, .int .i64, .int .i64, .int .i64, .string, .string, .string, .int .i64, .int .i64, .int .i64] w a len) (w1 : (Lit.int .i64 n).wf = true) :
    Calls Try.prog 6 #[.slice a len cap, .int .i64 n] w fun e w' => e = .returned (.bool true) ∧ Below w.heap.size w w' := by
  obtain ⟨L, rfl, hL, _⟩ := evs_of hl hm hr
  exact walk_ev _ a cap L n w rfl hL

end Go.Proofs.Ytclmhofnliacjaa.tallyOrder
