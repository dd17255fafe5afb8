/- A vector that came in, as a function. Lemmas for the seat's proofs. -/
import Derived.Test.YtpdckjfkkiameaaFlat
import Derived.Test.YtpdckjfkkiameaaVecBase
namespace Go.Proofs.Ytpdckjfkkiameaa
open Go.RowKit
set_option linter.unusedVariables false

theorem in64_of {x : Int} (h : (Lit.int .i64 x).wf = true) : In64 x := bounds_i64 h
def fn16 (l : List Int) : Nat → Int := fun i => l.getD i 0
theorem vv_of {cs : List Value} (h0 : LeavesOk [.int .i64, .int .i64, .int .i64, .int .i64, .int .i64, .int .i64, .int .i64, .int .i64, .int .i64, .int .i64, .int .i64, .int .i64, .int .i64, .int .i64, .int .i64, .int .i64] cs) : ∃ v : Nat → Int, cs.toArray = vv v ∧ ∀ i, In64 (v i) := by
  obtain ⟨n0, c0, e0, b0, h1⟩ := h0.int
  obtain ⟨n1, c1, e1, b1, h2⟩ := h1.int
  obtain ⟨n2, c2, e2, b2, h3⟩ := h2.int
  obtain ⟨n3, c3, e3, b3, h4⟩ := h3.int
  obtain ⟨n4, c4, e4, b4, h5⟩ := h4.int
  obtain ⟨n5, c5, e5, b5, h6⟩ := h5.int
  obtain ⟨n6, c6, e6, b6, h7⟩ := h6.int
  obtain ⟨n7, c7, e7, b7, h8⟩ := h7.int
  obtain ⟨n8, c8, e8, b8, h9⟩ := h8.int
  obtain ⟨n9, c9, e9, b9, h10⟩ := h9.int
  obtain ⟨n10, c10, e10, b10, h11⟩ := h10.int
  obtain ⟨n11, c11, e11, b11, h12⟩ := h11.int
  obtain ⟨n12, c12, e12, b12, h13⟩ := h12.int
  obtain ⟨n13, c13, e13, b13, h14⟩ := h13.int
  obtain ⟨n14, c14, e14, b14, h15⟩ := h14.int
  obtain ⟨n15, c15, e15, b15, h16⟩ := h15.int
  have e := h16.none
  subst e e15 e14 e13 e12 e11 e10 e9 e8 e7 e6 e5 e4 e3 e2 e1 e0
  refine ⟨fn16 [n0, n1, n2, n3, n4, n5, n6, n7, n8, n9, n10, n11, n12, n13, n14, n15], rfl, fun i => ?_⟩
  by_cases hi : i < 16
  · rcases lt16 hi with rfl | rfl | rfl | rfl | rfl | rfl | rfl | rfl | rfl | rfl | rfl | rfl | rfl | rfl | rfl | rfl
    · exact in64_of b0
    · exact in64_of b1
    · exact in64_of b2
    · exact in64_of b3
    · exact in64_of b4
    · exact in64_of b5
    · exact in64_of b6
    · exact in64_of b7
    · exact in64_of b8
    · exact in64_of b9
    · exact in64_of b10
    · exact in64_of b11
    · exact in64_of b12
    · exact in64_of b13
    · exact in64_of b14
    · exact in64_of b15
   
  · have : fn16 [n0, n1, n2, n3, n4, n5, n6, n7, n8, n9, n10, n11, n12, n13, n14, n15] i = 0 := by unfold fn16; rw [List.getD_eq_getElem?_getD, List.getElem?_eq_none (by simp; omega)]; rfl
    rw [this]; unfold In64; omega

end Go.Proofs.Ytpdckjfkkiameaa
