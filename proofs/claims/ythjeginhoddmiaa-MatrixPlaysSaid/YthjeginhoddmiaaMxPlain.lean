/- Plain laws of matrices: no program in sight. -/
import Derived.Test.YthjeginhoddmiaaMxSee
import Derived.Test.YthjeginhoddmiaaMxCut
namespace Go.Proofs.Ythjeginhoddmiaa
set_option linter.unusedVariables false

def zM : Nat → Nat → Int := fun _ => z0
/-- what a list of calls leaves. -/
def runM (n : Int) (M : Nat → Nat → Int) (L : List (Int × (Nat → Int))) : Nat → Nat → Int := L.foldl (fun M p => seeM n M p.1 p.2) M
theorem runM_succ (n : Int) (M : Nat → Nat → Int) (L : List (Int × (Nat → Int))) {k : Nat} (h : k < L.length) : runM n M (L.take (k + 1)) = seeM n (runM n M (L.take k)) L[k].1 L[k].2 := by
  unfold runM
  rw [List.take_succ_eq_append_getElem h, List.foldl_append]
  rfl
/-- no number is below 0. -/
def nnM (M : Nat → Nat → Int) : Prop := ∀ r i, 0 ≤ M r i
theorem nn_z : nnM zM := fun _ _ => Int.le_refl 0
theorem nn_see {n : Int} {M : Nat → Nat → Int} (h : nnM M) (r : Int) (v : Nat → Int) : nnM (seeM n M r v) := by
  intro q i
  unfold seeM
  split
  · unfold setM
    split
    · have h1 := h r.toNat i
      unfold joinF mx
      split <;> omega
    · exact h q i
  · exact h q i
theorem nn_run {n : Int} {M : Nat → Nat → Int} (h : nnM M) (L : List (Int × (Nat → Int))) : nnM (runM n M L) := by
  induction L generalizing M with
  | nil => exact h
  | cons p L ih => exact ih (nn_see h p.1 p.2)
theorem rowF_in {n : Int} {M : Nat → Nat → Int} {r : Nat} (h : (r : Int) < n) : rowF n M r = M r := by
  unfold rowF hasI
  rw [decide_eq_true ⟨by omega, h⟩]
  rfl
theorem rowF_out {n : Int} {M : Nat → Nat → Int} {r : Int} (h : ¬ (0 ≤ r ∧ r < n)) : rowF n M r = z0 := by
  unfold rowF hasI
  rw [decide_eq_false h]
  rfl
theorem mn_le_l (x y : Int) : mn x y ≤ x := by unfold mn; split <;> omega
theorem mn_le_r (x y : Int) : mn x y ≤ y := by unfold mn; split <;> omega
theorem le_mn {x y z : Int} (h1 : z ≤ x) (h2 : z ≤ y) : z ≤ mn x y := by unfold mn; split <;> omega
theorem stF_le {n : Int} {M : Nat → Nat → Int} (hn : 1 ≤ n) (i : Nat) : ∀ k j : Nat, j ≤ k → stF n M k i ≤ M j i
  | 0, j, h => by
    obtain rfl : j = 0 := by omega
    show rowF n M (0 : Nat) i ≤ _
    rw [rowF_in (by omega)]; exact Int.le_refl _
  | k + 1, j, h => by
    show mn (stF n M k i) (M (k + 1) i) ≤ _
    by_cases e : j = k + 1
    · subst e; exact mn_le_r _ _
    · exact Int.le_trans (mn_le_l _ _) (stF_le hn i k j (by omega))
theorem le_stF {n : Int} {M : Nat → Nat → Int} (hn : 1 ≤ n) (i : Nat) (z : Int) : ∀ k : Nat, (∀ j, j ≤ k → z ≤ M j i) → z ≤ stF n M k i
  | 0, h => by
    show z ≤ rowF n M (0 : Nat) i
    rw [rowF_in (by omega)]; exact h 0 (Nat.le_refl 0)
  | k + 1, h => by
    show z ≤ mn (stF n M k i) (M (k + 1) i)
    exact le_mn (le_stF hn i z k fun j hj => h j (by omega)) (h (k + 1) (Nat.le_refl _))
theorem stab_le {n : Int} {M : Nat → Nat → Int} {r : Nat} (h : (r : Int) < n) (i : Nat) : stabF n M i ≤ M r i := stF_le (by omega) i _ r (by omega)
theorem le_stab {n : Int} {M : Nat → Nat → Int} (hn : 1 ≤ n) (i : Nat) (z : Int) (h : ∀ r : Nat, (r : Int) < n → z ≤ M r i) : z ≤ stabF n M i := le_stF hn i z _ fun j hj => h j (by omega)
/-- what is cut is at most each row, and at most what was seen. -/
theorem cut_most {n : Int} {M : Nat → Nat → Int} {s : Nat → Int} {r : Nat} (h : (r : Int) < n) (hnn : nnM M) : mostB (cutF n M s) (rowF n M r) = true := by
  rw [rowF_in h, mostB_iff]
  intro i hi
  unfold cutF
  split
  · exact stab_le h i
  · exact hnn r i
theorem cut_seen {n : Int} {M : Nat → Nat → Int} {s : Nat → Int} {r : Nat} (h : (r : Int) < n) (hs : 0 ≤ s r) : cutF n M s r ≤ s r := by
  unfold cutF
  split
  · rename_i hc
    exact Int.le_trans (stab_le h r) (cutB_iff.1 hc r h)
  · exact hs

end Go.Proofs.Ythjeginhoddmiaa
