/- The walk of polyphonylaw20.PeerBoxes: it returns true, and what was there is as it was. No conditions. -/
import Derived.Test.YtpdckjfkkiameaaPrAwake
import Derived.Test.YtpdckjfkkiameaaPrQueue
import Derived.Test.YtpdckjfkkiameaaPrChan
namespace Go.Proofs.Ytpdckjfkkiameaa.peerBoxes
open Go.RowKit
attribute [local go_sem] bmax2_int bmin2_int bmax_two bmin_two blk_alloc blk_setRow blk_setCell blk_drew blk_drewN alloc_setRow cell_setRow_ne drew_setRow drewN_setRow fold_z0 vv_size vv_get vv_set
attribute [local go_sem ↓] exec_load_vv exec_store_vv exec_index_vv exec_eql_vv exec_neq_vv
attribute [local go_sem] loadVV_at storeVV_at indexVV_at eqVV_eql eqVV_neq ne_r2 ne_l2 ne_r3 ne_l3 ne_r4 ne_l4 ne_r5 ne_l5 ne_r6 ne_l6 ne_r7 ne_l7 ne_r8 ne_l8
set_option linter.unusedVariables false
set_option linter.unusedSimpArgs false
attribute [local go_sem ↓] exec_sliceI exec_makeBs exec_convBs
attribute [local go_sem] makeBs_int convBs_at

theorem gbel {W W' w0 : World} {B : Nat} (h : Below W.heap.size W W') (hb : Below B w0 W) (hB : B ≤ W.heap.size) : Below B w0 W' := hb.trans (h.mono hB)
/-- the calls' cells. -/
def BxRows (w : World) (b o : Nat) (L : List (Int × Bool)) : Prop := ∀ (i : Nat) (h : i < L.length), w.cell? ⟨b, o + i * 2, none⟩ = some (.int .i64 L[i].1) ∧ w.cell? ⟨b, o + i * 2 + 1, none⟩ = some (.bool L[i].2)
theorem BxRows.keep {w w' : World} {b o : Nat} {L : List (Int × Bool)} (h : BxRows w b o L) (hb : Below w.heap.size w w') : BxRows w' b o L := fun i hi => ⟨gcell hb (h i hi).1, gcell hb (h i hi).2⟩
theorem bx_of {w : World} {a : Option Addr} {len : Nat} (h : RowsIn [.int .i64, .bool] w a len) : ∃ L : List (Int × Bool), L.length = len ∧ (L = [] ∨ ∃ b o, a = some ⟨b, o, none⟩ ∧ b < w.heap.size ∧ BxRows w b o L) ∧ ∀ p ∈ L, In64 p.1 := by
  rcases h with rfl | ⟨b, o, rfl, hb, h⟩
  · exact ⟨[], rfl, .inl rfl, fun e he => by cases he⟩
  · have h' : ∀ i, i < len → ∃ p : Int × Bool, (w.cell? ⟨b, o + i * 2, none⟩ = some (.int .i64 p.1) ∧ w.cell? ⟨b, o + i * 2 + 1, none⟩ = some (.bool p.2)) ∧ In64 p.1 := fun i hi => by
      obtain ⟨cs, hcs, hc⟩ := h i hi
      obtain ⟨n0, c0, e0, b0, h1⟩ := hcs.int
      obtain ⟨n1, c1, e1, h2⟩ := h1.bool
      have e := h2.none
      subst e e1 e0
      refine ⟨(n0, n1), ⟨?_, ?_⟩, in64_of b0⟩
      · exact (hc 0 (by simp)).trans (by simp)
      · exact (hc 1 (by simp)).trans (by simp)
    have : Inhabited (Int × Bool) := ⟨(0, false)⟩
    obtain ⟨f, hf⟩ := Deep.choose_lt h'
    refine ⟨(List.range len).map f, by simp, .inr ⟨b, o, rfl, hb, fun i hi => ?_⟩, fun e he => ?_⟩
    · have hi' : i < len := by simpa using hi
      have := (hf i hi').1
      simpa using this
    · obtain ⟨i, hi, rfl⟩ := List.mem_map.1 he
      exact (hf i (by simpa using hi)).2

/-- numbers, and texts of so many bytes, as things in a box. -/
def ints (M : List Int) : Array Value := (M.map (Value.int .i64)).toArray
theorem ints_size (M : List Int) : (ints M).size = M.length := by simp [ints]
theorem ints_push (M : List Int) (x : Int) : (ints M).push (.int .i64 x) = ints (M ++ [x]) := by simp [ints]
theorem ints_cons (x : Int) (M : List Int) : ints (x :: M) = (Value.int .i64 x :: M.map (Value.int .i64)).toArray := rfl
/-- of each number so many zero bytes. -/
def strs (M : List Int) : Array Value := (M.map fun x => Value.string (zeros (bits .and .i64 x 63).toNat)).toArray
theorem strs_size (M : List Int) : (strs M).size = M.length := by simp [strs]
theorem strs_push (M : List Int) (x : Int) {m : Nat} (h : bits .and .i64 x 63 = m) : (strs M).push (.string (zeros m)) = strs (M ++ [x]) := by simp [strs, h]
theorem strs_cons (x : Int) (M : List Int) {m : Nat} (h : bits .and .i64 x 63 = m) : strs (x :: M) = (Value.string (zeros m) :: M.map fun x => Value.string (zeros (bits .and .i64 x 63).toNat)).toArray := by simp [strs, h]
theorem qi_blk {w : World} {base : Nat} {v : Value} {M : List Int} (h : QI w base v M) {g : Nat} (e : v.ownBlock = some g) : base ≤ g ∧ ∃ cur, blk w g = some (.cells cur 3 (0, 0)) := by
  rcases h with ⟨rfl, _⟩ | ⟨g', off, c, cur, rfl, hb, hg, _⟩
  · simp [Value.ownBlock] at e
  · have : g' = g := by simpa [Value.ownBlock] using e
    subst this
    exact ⟨hb, cur, hg⟩
theorem bx_own {w w' : World} {t : TypeId} {g c cap base : Nat} {buf : Array Value} {v : Value} {M : List Int} (h : BXT t w g c cap buf) (ht : t ≠ 3) (hq : QI w base v M) (hG : w.grownBy w' v.ownBlock) : BXT t w' g c cap buf := by
  refine h.fr (Fr.of_grown (X := fun k => some k = v.ownBlock) hG (fun k e => e)) (fun e => ?_) (fun e => ?_)
  · obtain ⟨_, cur, hg⟩ := qi_blk hq e.symm
    rw [h.head] at hg
    simp only [Option.some.injEq, Obj.cells.injEq] at hg
    exact ht hg.2.1
  · obtain ⟨_, cur, hg⟩ := qi_blk hq e.symm
    obtain ⟨s, r, hc⟩ := h.chan
    rw [hc] at hg
    cases hg
theorem fr_ne {w : World} {t : TypeId} {g c cap : Nat} {buf : Array Value} (h : BXT t w g c cap buf) : ∀ g' cur, blk w g' = some (.cells cur 3 (0, 0)) → ¬ g' = c := fun g' cur hg e => by
  obtain ⟨s, r, hc⟩ := h.chan
  rw [e, hc] at hg
  cases hg

set_option maxRecDepth 100000 in
set_option maxHeartbeats 1000000 in
theorem walk_bx (room : Int) (a : Option Addr) (cap : Nat) (L : List (Int × Bool)) (w : World) (hL : L = [] ∨ ∃ b o, a = some ⟨b, o, none⟩ ∧ b < w.heap.size ∧ BxRows w b o L) (hL2 : ∀ p ∈ L, In64 p.1) :
    Calls Try.prog 8 #[.int .i64 room, .slice a L.length cap] w fun e w' => e = .returned (.bool true) ∧ Below w.heap.size w w' := by
  have HL := Lib.hid hL
  have HL2 := Lib.hid hL2
  clear hL hL2
  go_enter Try.func8, Try.ntmps8
  go_wp2_with fail
  refine Calls.mono (awake20_any _) ?_
  rintro e w2 ⟨rfl, hb'⟩
  have k0 := Lib.hid hb'
  have hs2 := hb'.size
  clear hb'
  by_cases hlen : (L.length : Int) > 1000
  · go_wp2_with fail
    refine Calls.mono (awake20_any _) ?_
    rintro e w3 ⟨rfl, hb'⟩
    replace k0 := Lib.hid (gbelow hb' k0.out)
    clear hb'
    go_wp2
    go_ret
    exact ⟨rfl, k0.out⟩
  obtain ⟨n, hn⟩ : ∃ n : Nat, (n : Int) = mx 0 (mn room 65536) := ⟨(mx 0 (mn room 65536)).toNat, by unfold mx mn; split <;> split <;> omega⟩
  have HNN := Lib.hid hn
  clear hn
  go_wp2_with fail
  refine Calls.mono (bnew_int room n w2 HNN.out) ?_
  rintro e w3 ⟨rfl, hb', hbx, hsz⟩
  replace k0 := Lib.hid (gbelow hb' k0.out)
  clear hb'
  generalize hgw : w.heap.size = gw at *
  generalize w2.heap.size = cb at *
  obtain ⟨gb, hgb⟩ : ∃ gb, gb = cb + 1 := ⟨_, rfl⟩
  rw [← hgb] at hbx ⊢
  have hgs3 : gw ≤ w3.heap.size := by omega
  have hq1 : cb < gb := by omega
  have hq2 : gb < w3.heap.size := by omega
  clear hgb hsz
  go_wp2_with fail
  refine Calls.mono (bnew_str room n w3 HNN.out) ?_
  rintro e w4 ⟨rfl, hb', hbx2, hsz4⟩
  replace k0 := Lib.hid (gbel hb' k0.out hgs3)
  replace hbx := hbx.keep hb'
  clear hb'
  generalize hw3 : w3.heap.size = cc at *
  obtain ⟨gc, hgc⟩ : ∃ gc, gc = cc + 1 := ⟨_, rfl⟩
  rw [← hgc] at hbx2 ⊢
  have hgs4 : gw ≤ w4.heap.size := by omega
  have hd1 : gw ≤ cb := hs2
  have hd2 : gw ≤ cc := hgs3
  have hd3 : cb ≠ cc := by omega
  have hd4 : cb ≠ gc := by omega
  have hd5 : cc ≠ gb := by omega
  have hd6 : cc ≠ gc := by omega
  have hd7 : cb ≠ gb := by omega
  clear hsz4 hgc hw3 hs2 hq1 hq2
  have KB : Hid (BXT 91 w4 gb cb n (ints [])) := Lib.hid hbx
  have KC : Hid (BXT 94 w4 gc cc n #[]) := Lib.hid hbx2
  clear hbx hbx2
  go_wp2_with fail
  go_loopw [7, 34] (fun v7 v34 wr => ∃ (k : Nat) (M : List Int), k ≤ L.length ∧ v34 = .int .i64 k ∧ M.length ≤ k ∧ M.length ≤ n ∧ (Below gw w wr ∧ gw ≤ wr.heap.size) ∧ BXT 91 wr gb cb n (ints M) ∧ BXT 94 wr gc cc n (strs M) ∧ QI wr gw v7 M) (fun _ v34 _ => L.length - (intOf v34).toNat)
  case atStart => exact ⟨0, [], by omega, rfl, by simp, by simp, ⟨k0.out, hgs4⟩, KB.out, KC.out, QI.nil _ _⟩
  case round =>
    obtain ⟨k, M, hk, rfl, hMk, hMn, ⟨q0, hgs⟩, qb, qc, ql⟩ := hrel
    obtain ⟨al, cl, rfl⟩ := ql.form
    have Q0 := Lib.hid q0
    have QB := Lib.hid qb
    have QC := Lib.hid qc
    have QL := Lib.hid ql
    clear q0 qb qc ql
    by_cases hlt : k < L.length
    · rcases HL.out with h0 | ⟨b, o, rfl, hbw, hrows⟩
      · rw [h0] at hlt; simp at hlt
      have hrk := (hrows.keep (Q0.out.mono (Nat.le_of_eq hgw))) k hlt
      obtain ⟨c1, c2⟩ := hrk
      have hx64 := Lib.hid (HL2.out L[k] (List.getElem_mem hlt))
      clear hrows
      generalize L[k].1 = x at *
      generalize L[k].2 = tk at *
      cases tk
      · obtain ⟨m, hm⟩ := Int.eq_ofNat_of_zero_le (msk_bd x).1
        have hm2 : m ≤ 63 := by have := (msk_bd x).2; omega
        by_cases hroom : M.length < n
        · have hok2 : (M.length : Int) < mx 0 (mn room 65536) := by rw [← HNN.out]; omega
          go_wp2_with fail
          refine Calls.mono (bput_int gb cb n _ x wr QB.out (by rw [ints_size]; omega)) ?_
          rintro e w5 ⟨rfl, hF, hbx⟩
          have A0 := Lib.hid (hF.below (B := gw) (fun k hk e => by omega) hgs Q0.out)
          have hgs5 := Nat.le_trans hgs hF.size
          have AB := Lib.hid hbx
          have AC := Lib.hid (QC.out.fr hF (fun e => hd4 e.symm) (fun e => hd3 e.symm))
          have AL := Lib.hid (QL.out.fr hF (fr_ne QB.out))
          have c3 := hF.cell (p := ⟨b, o + k * 2, none⟩) (by simp; omega) c1
          clear hF hbx c1 QB QC QL Q0
          have hB := (Below.refl w5.heap.size w5).alloc (Nat.le_refl _) (Obj.cells (zcs m) 5)
          replace A0 := Lib.hid (gbel hB A0.out hgs5)
          replace hgs5 := Nat.le_trans hgs5 hB.size
          replace AB := Lib.hid (AB.out.keep hB)
          replace AC := Lib.hid (AC.out.keep hB)
          replace AL := Lib.hid (AL.out.keep hB)
          have c4 := gcell hB c3
          clear hB
          go_wp2_with fail
          clear c3
          generalize w5.alloc (Obj.cells (zcs m) 5) = w6 at *
          refine Calls.mono (bput_str gc cc n _ (zeros m) w6 AC.out (by rw [strs_size]; omega)) ?_
          rintro e w7 ⟨rfl, hF, hbx⟩
          replace A0 := Lib.hid (hF.below (B := gw) (fun k hk e => by omega) hgs5 A0.out)
          replace hgs5 := Nat.le_trans hgs5 hF.size
          replace AB := Lib.hid (AB.out.fr hF (fun e => hd5 e.symm) (fun e => hd3 e))
          replace AL := Lib.hid (AL.out.fr hF (fr_ne AC.out))
          replace AC := Lib.hid hbx
          replace c4 := hF.cell (p := ⟨b, o + k * 2, none⟩) (by simp; omega) c4
          clear hF hbx
          rw [ints_push] at AB
          rw [strs_push M x hm] at AC
          have hB := (Below.refl w7.heap.size w7).alloc (Nat.le_refl _) (Obj.cells #[Value.int .i64 x] 3)
          have cx : (w7.alloc (Obj.cells #[Value.int .i64 x] 3)).cell? ⟨w7.heap.size, 0, none⟩ = some (.int .i64 x) := cell_of_row _ _ 0 _ _ _ (gblk_new w7 _)
          have CX := Lib.hid cx
          have AL2 := Lib.hid (AL.out.keep hB)
          have AB2 := Lib.hid (AB.out.keep hB)
          have AC2 := Lib.hid (AC.out.keep hB)
          have A2 := Lib.hid (gbel hB A0.out hgs5)
          have HG := Lib.hid (Nat.le_trans hgs5 hB.size)
          have HM : Hid (M.length ≤ 100000) := Lib.hid (by omega)
          clear hB cx
          go_wp2_with (first
            | (at_builtin; refine wpList_append_qi rfl _ _ rfl gw (.slice al M.length cl) M x w7.heap.size 1 rfl rfl AL2.out CX.out HM.out HG.out ?_; intro v1 w9 O1 G1; obtain ⟨a1, c1, rfl⟩ := O1.out.form)
            | fail)
          have G2 := G1.out
          have B2 := Lib.hid (bx_own AB2.out (by decide) AL2.out G2)
          have C2 := Lib.hid (bx_own AC2.out (by decide) AL2.out G2)
          have D2 := Lib.hid ((Fr.of_grown (X := fun k => some k = (Value.slice al M.length cl).ownBlock) G2 (fun k e => e)).below (B := gw) (fun k hk e => by have := (qi_blk AL2.out e.symm).1; omega) HG.out A2.out)
          have H2 := Nat.le_trans HG.out G2.size
          clear G2 G1 AB AC AL A0 AB2 AC2 AL2 A2 CX c4
          have l1 := blen_int gb cb n _ _ B2.out
          rw [ints_size] at l1
          refine Calls.mono l1 ?_
          rintro e w20 ⟨rfl, rfl⟩
          have l2 := blen_str gc cc n _ _ C2.out
          rw [strs_size] at l2
          go_wp2_with fail
          refine Calls.mono l2 ?_
          rintro e w21 ⟨rfl, rfl⟩
          clear l1 l2
          go_wp2
          go_roundw
          case rel => exact ⟨k + 1, M ++ [x], by omega, by go_num, by simp; omega, by simp; omega, ⟨D2.out, H2⟩, B2.out, C2.out, by simpa using O1.out⟩
          case measure => simp [intOf]; omega
        · have hok2 : ¬ (M.length : Int) < mx 0 (mn room 65536) := by rw [← HNN.out]; omega
          have hok3 : mx 0 (mn room 65536) ≤ (M.length : Int) := by omega
          go_wp2_with fail
          refine Calls.mono (bput_int_full gb cb n _ x wr QB.out (by rw [ints_size]; omega)) ?_
          rintro e w5 ⟨rfl, hF, hbx⟩
          have A0 := Lib.hid (hF.below (B := gw) (fun k hk e => by omega) hgs Q0.out)
          have hgs5 := Nat.le_trans hgs hF.size
          have AB := Lib.hid hbx
          have AC := Lib.hid (QC.out.fr hF (fun e => hd4 e.symm) (fun e => hd3 e.symm))
          have AL := Lib.hid (QL.out.fr hF (fr_ne QB.out))
          have c3 := hF.cell (p := ⟨b, o + k * 2, none⟩) (by simp; omega) c1
          clear hF hbx c1 QB QC QL Q0
          have hB := (Below.refl w5.heap.size w5).alloc (Nat.le_refl _) (Obj.cells (zcs m) 5)
          replace A0 := Lib.hid (gbel hB A0.out hgs5)
          replace hgs5 := Nat.le_trans hgs5 hB.size
          replace AB := Lib.hid (AB.out.keep hB)
          replace AC := Lib.hid (AC.out.keep hB)
          replace AL := Lib.hid (AL.out.keep hB)
          have c4 := gcell hB c3
          clear hB
          go_wp2_with fail
          clear c3
          generalize w5.alloc (Obj.cells (zcs m) 5) = w6 at *
          refine Calls.mono (bput_str_full gc cc n _ (zeros m) w6 AC.out (by rw [strs_size]; omega)) ?_
          rintro e w7 ⟨rfl, hF, hbx⟩
          replace A0 := Lib.hid (hF.below (B := gw) (fun k hk e => by omega) hgs5 A0.out)
          replace hgs5 := Nat.le_trans hgs5 hF.size
          replace AB := Lib.hid (AB.out.fr hF (fun e => hd5 e.symm) (fun e => hd3 e))
          replace AL := Lib.hid (AL.out.fr hF (fr_ne AC.out))
          replace AC := Lib.hid hbx
          replace c4 := hF.cell (p := ⟨b, o + k * 2, none⟩) (by simp; omega) c4
          clear hF hbx
          clear c4
          have l1 := blen_int gb cb n _ _ AB.out
          rw [ints_size] at l1
          go_wp2_with fail
          refine Calls.mono l1 ?_
          rintro e w20 ⟨rfl, rfl⟩
          have l2 := blen_str gc cc n _ _ AC.out
          rw [strs_size] at l2
          go_wp2_with fail
          refine Calls.mono l2 ?_
          rintro e w21 ⟨rfl, rfl⟩
          clear l1 l2
          go_wp2
          go_roundw
          case rel => exact ⟨k + 1, M, by omega, by go_num, by omega, by omega, ⟨A0.out, hgs5⟩, AB.out, AC.out, AL.out⟩
          case measure => simp [intOf]; omega
      · cases M with
        | nil =>
          have QB' : Hid (BXT 91 wr gb cb n #[]) := QB
          have QC' : Hid (BXT 94 wr gc cc n #[]) := QC
          obtain ⟨v2, QL2, hsl⟩ := QL.out.stay
          obtain ⟨a2, cl2, rfl⟩ := QL2.form
          have hsl2 : ∀ w', sliceI (.slice al 0 cl) (.int .i64 (mn 1 0)) w' = .ok (.value (.slice a2 0 cl2)) w' := hsl
          clear hsl
          replace QL2 := Lib.hid QL2
          clear QL QB QC c1
          go_wp2_with fail
          refine Calls.mono (btake_int_none gb cb n wr QB'.out) ?_
          rintro e w5 ⟨rfl, hF, hbx⟩
          replace Q0 := Lib.hid (hF.below (B := gw) (fun k hk e => by omega) hgs Q0.out)
          replace hgs := Nat.le_trans hgs hF.size
          replace QC' := Lib.hid (QC'.out.fr hF (fun e => hd4 e.symm) (fun e => hd3 e.symm))
          replace QL2 := Lib.hid (QL2.out.fr hF (fr_ne QB'.out))
          replace QB' := Lib.hid hbx
          clear hF hbx
          go_wp2_with fail
          refine Calls.mono (btake_str_none gc cc n w5 QC'.out) ?_
          rintro e w7 ⟨rfl, hF, hbx⟩
          replace Q0 := Lib.hid (hF.below (B := gw) (fun k hk e => by omega) hgs Q0.out)
          replace hgs := Nat.le_trans hgs hF.size
          replace QB' := Lib.hid (QB'.out.fr hF (fun e => hd5 e.symm) (fun e => hd3 e))
          replace QL2 := Lib.hid (QL2.out.fr hF (fr_ne QC'.out))
          replace QC' := Lib.hid hbx
          clear hF hbx
          have AB : Hid (BXT 91 w7 gb cb n (ints [])) := QB'
          have AC : Hid (BXT 94 w7 gc cc n (strs [])) := QC'
          clear QB' QC'
          have l1 := blen_int gb cb n _ _ AB.out
          rw [ints_size] at l1
          go_wp2_with fail
          refine Calls.mono l1 ?_
          rintro e w20 ⟨rfl, rfl⟩
          have l2 := blen_str gc cc n _ _ AC.out
          rw [strs_size] at l2
          go_wp2_with fail
          refine Calls.mono l2 ?_
          rintro e w21 ⟨rfl, rfl⟩
          clear l1 l2
          go_wp2
          go_roundw
          case rel => exact ⟨k + 1, [], by omega, by go_num, by simp, by simp, ⟨Q0.out, hgs⟩, AB.out, AC.out, QL2.out⟩
          case measure => simp [intOf]; omega
        | cons y M =>
          obtain ⟨m, hm⟩ := Int.eq_ofNat_of_zero_le (msk_bd y).1
          rw [ints_cons] at QB
          rw [strs_cons y M hm] at QC
          obtain ⟨g, off, rfl, _⟩ := QL.out.head
          obtain ⟨v2, QL2, hsl⟩ := QL.out.tail (by simp at hMk; omega)
          obtain ⟨a2, cl2, rfl⟩ := QL2.form
          have hsl2 : ∀ w', sliceI (.slice (some ⟨g, off, none⟩) (M.length + 1) cl) (.int .i64 (mn 1 ((M.length : Int) + 1))) w' = .ok (.value (.slice a2 M.length cl2)) w' := hsl
          clear hsl
          replace QL2 := Lib.hid QL2
          have hMk' : M.length + 1 ≤ k := hMk
          have hMn' : M.length + 1 ≤ n := hMn
          clear c1 hMk hMn
          go_wp2_with fail
          refine Calls.mono (btake_int gb cb n _ _ wr QB.out) ?_
          rintro e w5 ⟨rfl, hF, hbx⟩
          replace Q0 := Lib.hid (hF.below (B := gw) (fun k hk e => by omega) hgs Q0.out)
          replace hgs := Nat.le_trans hgs hF.size
          replace QC := Lib.hid (QC.out.fr hF (fun e => hd4 e.symm) (fun e => hd3 e.symm))
          replace QL2 := Lib.hid (QL2.out.fr hF (fr_ne QB.out))
          replace QL := Lib.hid (QL.out.fr hF (fr_ne QB.out))
          have AB : Hid (BXT 91 w5 gb cb n (ints M)) := Lib.hid hbx
          clear hF hbx QB
          go_wp2_with fail
          refine Calls.mono (btake_str gc cc n _ _ w5 QC.out) ?_
          rintro e w7 ⟨rfl, hF, hbx⟩
          replace Q0 := Lib.hid (hF.below (B := gw) (fun k hk e => by omega) hgs Q0.out)
          replace hgs := Nat.le_trans hgs hF.size
          replace AB := Lib.hid (AB.out.fr hF (fun e => hd5 e.symm) (fun e => hd3 e))
          replace QL2 := Lib.hid (QL2.out.fr hF (fr_ne QC.out))
          replace QL := Lib.hid (QL.out.fr hF (fr_ne QC.out))
          have AC : Hid (BXT 94 w7 gc cc n (strs M)) := Lib.hid hbx
          clear hF hbx QC
          obtain ⟨g', off', eg, ch⟩ := QL.out.head
          simp only [Option.some.injEq, Addr.mk.injEq, and_true] at eg
          obtain ⟨rfl, rfl⟩ := eg
          have hzz := zeros_size m
          clear QL
          have l1 := blen_int gb cb n _ _ AB.out
          rw [ints_size] at l1
          go_wp2_with fail
          refine Calls.mono l1 ?_
          rintro e w20 ⟨rfl, rfl⟩
          have l2 := blen_str gc cc n _ _ AC.out
          rw [strs_size] at l2
          go_wp2_with fail
          refine Calls.mono l2 ?_
          rintro e w21 ⟨rfl, rfl⟩
          clear l1 l2
          go_wp2
          go_roundw
          case rel => exact ⟨k + 1, M, by omega, by go_num, by omega, by omega, ⟨Q0.out, hgs⟩, AB.out, AC.out, QL2.out⟩
          case measure => simp [intOf]; omega
    · have e : k = L.length := by omega
      subst e
      have l1 := blen_int gb cb n _ _ QB.out
      rw [ints_size] at l1
      go_wp2_with fail
      refine Calls.mono l1 ?_
      rintro e w20 ⟨rfl, rfl⟩
      clear l1
      go_wp2
      go_ret
      first
        | exact ⟨by simp, Q0.out⟩
        | exact ⟨rfl, Q0.out.mono (Nat.le_of_eq hgw)⟩
        | exact ⟨by simp, Q0.out.mono (Nat.le_of_eq hgw)⟩

theorem walk (room : Int) (a : Option Addr) (len cap : Nat) (w : World) (w0 : (Lit.int .i64 room).wf = true) (hl : len ≤ cap) (hm : cap ≤ maxLen) (hr : RowsIn [.int .i64, .bool] w a len) :
    Calls Try.prog 8 #[.int .i64 room, .slice a len cap] w fun e w' => e = .returned (.bool true) ∧ Below w.heap.size w w' := by
  obtain ⟨L, rfl, hL, hL2⟩ := bx_of hr
  exact walk_bx room a cap L w hL hL2

end Go.Proofs.Ytpdckjfkkiameaa.peerBoxes
