/- As HeldK, where the store waits for an operation through others. Lemmas for the seat's proofs. -/
import Derived.Test.YtpdckjfkkiameaaHeldK
namespace Go.Proofs.Ytpdckjfkkiameaa
open Go.RowKit
set_option linter.unusedVariables false

section
variable {P : Program} {ops : Array Oper} {Q : Exit → Act → World → Prop} {md : Region.Mode} {S : World → Prop} {s : Nat}

/-- operation s waits for operation i, at most n steps away. -/
def WaitsC (md : Region.Mode) (ops : Array Oper) : Nat → Nat → Nat → Bool
  | 0, _, _ => false
  | n + 1, s, i => match ops[s]? with
    | some o => o.after.any fun e => Region.binds md e && (e.on == i || WaitsC md ops n e.on i)
    | none => false
def Closed (md : Region.Mode) (ops : Array Oper) (listed : Array Bool) : Prop := ∀ j oj, ops[j]? = some oj → listed.getD j false = true → ∀ e ∈ oj.after, Region.binds md e = true → listed.getD e.on false = true
def closedB (md : Region.Mode) (ops : Array Oper) (listed : Array Bool) : Bool :=
  (List.range ops.size).all fun j => !listed.getD j false || (match ops[j]? with | some o => o.after.all fun e => !Region.binds md e || listed.getD e.on false | none => true)
theorem Closed.of {listed : Array Bool} (h : closedB md ops listed = true) : Closed md ops listed := by
  intro j oj hj hl e he hb
  unfold closedB at h
  rw [List.all_eq_true] at h
  have h1 := h j (List.mem_range.2 (Array.getElem?_eq_some_iff.1 hj).1)
  rw [hl, hj] at h1
  simp only [Bool.not_true, Bool.false_or, Array.all_eq_true_iff_forall_mem] at h1
  have h2 := h1 e he
  rw [hb] at h2
  simpa using h2
theorem Closed.reach {listed : Array Bool} (hc : Closed md ops listed) {i : Nat} : ∀ (n s : Nat), WaitsC md ops n s i = true → (∀ o, ops[s]? = some o → ∀ e ∈ o.after, Region.binds md e = true → listed.getD e.on false = true) → listed.getD i false = true
  | 0, _, h, _ => by cases h
  | n + 1, s, h, hs => by
    unfold WaitsC at h
    cases ho : ops[s]? with
    | none => rw [ho] at h; cases h
    | some o =>
      rw [ho] at h
      obtain ⟨e, he, hb⟩ := Array.any_eq_true'.1 h
      simp only [Bool.and_eq_true, Bool.or_eq_true, beq_iff_eq] at hb
      have h1 := hs o ho e he hb.1
      rcases hb.2 with h2 | h2
      · rw [h2] at h1; exact h1
      · exact Closed.reach hc n e.on h2 fun o' ho' => hc e.on o' ho' h1
theorem unlisted {i : Nat} {listed : Array Bool} (h : listed.getD i true = false) : listed.getD i false = false := by
  rcases Nat.lt_or_ge i listed.size with h' | h'
  · simp [h'] at h ⊢; exact h
  · simp [Array.getElem?_eq_none h'] at h
theorem Closed.not_ready {i n : Nat} {listed : Array Bool} (hc : Closed md ops listed) (h : WaitsC md ops n s i = true) (hi : listed.getD i true = false) : s ∉ Region.ready md ops listed := by
  intro hs
  obtain ⟨_, o, ho, hall⟩ := mem_ready.1 hs
  have := hc.reach n s h fun o' ho' e he hb => by rw [ho] at ho'; injection ho' with e1; subst e1; exact hall e he hb
  rw [unlisted hi] at this
  cases this
theorem Closed.step {j : Nat} {listed : Array Bool} (hc : Closed md ops listed) (hj : j ∈ Region.ready md ops listed) : Closed md ops (listed.setIfInBounds j true) := by
  have mono : ∀ k, listed.getD k false = true → (listed.setIfInBounds j true).getD k false = true := fun k hk => by
    by_cases e : j = k
    · subst e
      have hlt : j < listed.size := by
        rcases Nat.lt_or_ge j listed.size with h' | h'
        · exact h'
        · simp [Array.getElem?_eq_none h'] at hk
      simp [hlt]
    · rw [getD_set_ne false e]; exact hk
  intro k ok hk hl e he hb
  by_cases ejk : j = k
  · subst ejk
    obtain ⟨_, o, ho, hall⟩ := mem_ready.1 hj
    rw [hk] at ho; injection ho with e1; subst e1
    exact mono _ (hall e he hb)
  · rw [getD_set_ne false ejk] at hl
    exact mono _ (hc k ok hk hl e he hb)

theorem wpAnyC_first {i n : Nat} {oi : Oper} {v : Value} (hi : ops[i]? = some oi) (hsel : ∀ (j : Nat) (o : Oper) cs b, ops[j]? = some o → o.op ≠ .select cs b)
    (hQ : ∀ c a w, Q (.panic c) (a.put oi.dst v) w → Q (.panic c) a w) (hw : WaitsC md ops n s i = true) :
    ∀ (fuel : Nat) (listed : Array Bool) (a : Act) (w : World), Closed md ops listed →
      (∀ j oj, ops[j]? = some oj → j ≠ i → listed.getD j true = false → (∀ e ∈ oj.after, Region.binds md e = true → e.on ≠ i) → oi.apart ops oj = true) →
      i ∈ Region.ready md ops listed → listed.getD s false = false → YieldsIf P ops S oi v a → S w →
      wpAnyK P md ops Q S s fuel (listed.setIfInBounds i true) (a.put oi.dst v) w → wpAnyK P md ops Q S s (fuel + 1) listed a w := by
  intro fuel
  induction fuel with
  | zero =>
    intro listed a w _ _ hr _ hy hS H
    refine ⟨fun h => (by rw [h] at hr; cases hr), fun j hj => ?_⟩
    by_cases hji : j = i
    · subst hji; exact hy.wpOp hi hS ⟨.inr hS, H⟩
    · have := ready_mono hj hji
      rw [H.1] at this
      cases this
  | succ fuel ih =>
    intro listed a w hcl hfree hr hns hy hS H
    refine ⟨fun h => (by rw [h] at hr; cases hr), fun j hj => ?_⟩
    by_cases hji : j = i
    · subst hji; exact hy.wpOp hi hS ⟨.inr hS, H⟩
    · have h1 := H.2 j (ready_mono hj hji)
      obtain ⟨hjun, oj, hoj, hall⟩ := mem_ready.1 hj
      have hiun := (mem_ready.1 hr).1
      have hjs : j ≠ s := fun e => hcl.not_ready hw hiun (e ▸ hj)
      have his : i ≠ s := fun e => hcl.not_ready hw hiun (e ▸ hr)
      have hnot : ∀ e ∈ oj.after, Region.binds md e = true → e.on ≠ i := fun e he hb heq => by
        have h1 := hall e he hb
        rw [heq, unlisted hiun] at h1
        cases h1
      have h2 := wpOp_putIf hoj (hfree j oj hoj hji hjun hnot) (fun cs b => hsel i oi cs b hi) (fun cs b => hsel j oj cs b hoj) hQ hy h1
      have hfree' : ∀ k ok, ops[k]? = some ok → k ≠ i → (listed.setIfInBounds j true).getD k true = false →
          (∀ e ∈ ok.after, Region.binds md e = true → e.on ≠ i) → oi.apart ops ok = true := fun k ok hk hki hun hno => by
        refine hfree k ok hk hki ?_ hno
        by_cases hjk : j = k
        · subst hjk; exact hjun
        · rw [getD_set_ne true hjk] at hun; exact hun
      refine wpOp_mono (fun a' w' h3 => ?_) h2
      have hSw : S w' := by
        rcases h3.2.1 with h4 | h4
        · rw [getD_set_ne false hjs, getD_set_ne false his, hns] at h4; cases h4
        · exact h4
      refine ⟨.inr hSw, ih (listed.setIfInBounds j true) a' w' (hcl.step hj) hfree' (ready_mono hr (Ne.symm hji)) (by rw [getD_set_ne false hjs]; exact hns) h3.1 hSw ?_⟩
      rw [Array.setIfInBounds_comm _ _ hji]
      exact h3.2.2

theorem wpAnyC_take {i : Nat} {oi : Oper} {v : Value} {fuel : Nat} {listed : Array Bool} {a : Act} {w : World} (hi : ops[i]? = some oi)
    (hs : Region.noSelect ops = true) (hf : Region.free md ops listed i = true) (hr : (Region.ready md ops listed).contains i = true) (hw : WaitsC md ops 9 s i = true) (hcl : closedB md ops listed = true) (hns : listed.getD s false = false)
    (hQ : ∀ c a w, Q (.panic c) (a.put oi.dst v) w → Q (.panic c) a w) (hy : YieldsIf P ops S oi v a) (hS : S w)
    (h : wpAnyK P md ops Q S s fuel (listed.setIfInBounds i true) (a.put oi.dst v) w) : wpAnyK P md ops Q S s (fuel + 1) listed a w :=
  wpAnyC_first hi (Region.noSelect_spec hs) hQ hw fuel listed a w (Closed.of hcl) (Region.free_spec hi hf) (by simpa using hr) hns hy hS h
end
end Go.Proofs.Ytpdckjfkkiameaa
