/- Plain laws of matrices: the order of calls plays no part. -/
import Derived.Test.YthjeginhoddmiaaMxPlain
namespace Go.Proofs.Ythjeginhoddmiaa
set_option linter.unusedVariables false

theorem mx_swap (a b c : Int) : mx (mx a b) c = mx (mx a c) b := by unfold mx; (repeat' split) <;> omega
theorem mx_idem (a b : Int) : mx (mx a b) b = mx a b := by unfold mx; (repeat' split) <;> omega
theorem seeM_swap (n : Int) (M : Nat → Nat → Int) (r q : Int) (v u : Nat → Int) : seeM n (seeM n M r v) q u = seeM n (seeM n M q u) r v := by
  unfold seeM
  by_cases h1 : seeB n r v = true <;> by_cases h2 : seeB n q u = true
  · rw [if_pos h1, if_pos h2, if_pos h2, if_pos h1]
    funext k i
    unfold setM
    by_cases e1 : k = r.toNat <;> by_cases e2 : k = q.toNat
    · subst e1
      rw [if_pos e2, if_pos rfl, if_pos e2.symm, if_pos e2]
      unfold joinF
      rw [← e2]
      exact mx_swap _ _ _
    · subst e1
      rw [if_neg e2, if_pos rfl, if_pos rfl, if_neg e2]
    · subst e2
      rw [if_pos rfl, if_neg e1, if_neg e1, if_pos rfl]
    · rw [if_neg e2, if_neg e1, if_neg e1, if_neg e2]
  · simp [h1, h2]
  · simp [h1, h2]
  · simp [h1, h2]
theorem seeM_idem (n : Int) (M : Nat → Nat → Int) (r : Int) (v : Nat → Int) : seeM n (seeM n M r v) r v = seeM n M r v := by
  unfold seeM
  by_cases h1 : seeB n r v = true
  · rw [if_pos h1, if_pos h1]
    funext k i
    unfold setM
    by_cases e1 : k = r.toNat
    · rw [if_pos e1, if_pos e1, if_pos rfl]
      exact mx_idem _ _
    · rw [if_neg e1, if_neg e1]
  · simp [h1]
theorem run_see (n : Int) (M : Nat → Nat → Int) (r : Int) (v : Nat → Int) (L : List (Int × (Nat → Int))) : runM n (seeM n M r v) L = seeM n (runM n M L) r v := by
  induction L generalizing M with
  | nil => rfl
  | cons p L ih =>
    show runM n (seeM n (seeM n M r v) p.1 p.2) L = seeM n (runM n (seeM n M p.1 p.2) L) r v
    rw [seeM_swap, ih]
/-- the order plays no part. -/
theorem run_rev (n : Int) (M : Nat → Nat → Int) (L : List (Int × (Nat → Int))) : runM n M L.reverse = runM n M L := by
  induction L generalizing M with
  | nil => rfl
  | cons p L ih =>
    have h : runM n M (p :: L).reverse = seeM n (runM n M L.reverse) p.1 p.2 := by
      unfold runM
      rw [List.reverse_cons, List.foldl_append]
      rfl
    rw [h, ih, ← run_see]
    rfl

end Go.Proofs.Ythjeginhoddmiaa
