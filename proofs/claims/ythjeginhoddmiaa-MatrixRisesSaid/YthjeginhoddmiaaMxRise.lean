/- Plain laws of matrices: nothing falls. -/
import Derived.Test.YthjeginhoddmiaaMxPlain
namespace Go.Proofs.Ythjeginhoddmiaa
set_option linter.unusedVariables false

theorem see_le (n : Int) (M : Nat → Nat → Int) (r : Int) (v : Nat → Int) (k i : Nat) : M k i ≤ seeM n M r v k i := by
  unfold seeM
  split
  · unfold setM
    split
    · rename_i h; subst h
      unfold joinF mx
      split <;> omega
    · exact Int.le_refl _
  · exact Int.le_refl _
theorem row_rises (n : Int) (M : Nat → Nat → Int) (r : Int) (v : Nat → Int) (q : Int) : mostB (rowF n M q) (rowF n (seeM n M r v) q) = true := by
  rw [mostB_iff]
  intro i _
  unfold rowF
  split
  · exact see_le n M r v _ i
  · exact Int.le_refl _
theorem stab_rises {n : Int} (hn : 1 ≤ n) (M : Nat → Nat → Int) (r : Int) (v : Nat → Int) : mostB (stabF n M) (stabF n (seeM n M r v)) = true := by
  rw [mostB_iff]
  intro i _
  exact le_stab hn i _ fun q hq => Int.le_trans (stab_le hq i) (see_le n M r v q i)
theorem stab_most {n : Int} {M : Nat → Nat → Int} {r : Nat} (h : (r : Int) < n) : mostB (stabF n M) (rowF n M r) = true := by
  rw [rowF_in h, mostB_iff]
  intro i _
  exact stab_le h i
theorem cutF_yes {n : Int} {M : Nat → Nat → Int} {s : Nat → Int} (h : cutB n M s = true) : cutF n M s = stabF n M := by unfold cutF; rw [if_pos h]
theorem cutF_no {n : Int} {M : Nat → Nat → Int} {s : Nat → Int} (h : cutB n M s = false) : cutF n M s = z0 := by unfold cutF; rw [h]; rfl

end Go.Proofs.Ythjeginhoddmiaa
