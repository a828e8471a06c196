/- Proves that on every pair of 64-bit numbers the plain form of the law FnExactGreatestOf answers true for some number of rounds.
   Conditions: both arguments are 64-bit signed integers; none else. -/
import Derived.Test.YtdkcfhjbdbeebaaPFnExactGreatestOfx1
namespace Go.Proofs.Ytdkcfhjbdbeebaa.Pure
open Go.RowKit Go.Proofs.Ytdkcfhjbdbeebaa.PFnExactGreatestOf Go.Proofs.YtdkcfhjbdbeebaaW.PrintWords Go.Proofs.YtdkcfhjbdbeebaaW.PrintLast

/-- YOURS: ∀ (a0 : Int) (a1 : Int), (Lit.int .i64 a0).wf = true → (Lit.int .i64 a1).wf = true → ∃ k, laws_FnExactGreatestOf.f k a0 a1 = some true
What it reaches (each with k first where it has rounds; `.mono`: more rounds tell the same; `.l0`, ..: its loops, with `.mono_l`): spec_l1In.f, spec_GreatestOf.f, impl_inRange.f, impl_GreatestOf.f, laws_FnExactGreatestOf.f -/
theorem grid : ∀ (i : Fin 8) (j : Fin 6), laws_FnExactGreatestOf.f 40 (1 + (i.val : Int)) (1 + (j.val : Int)) = some true := by
  decide +kernel

theorem FnExactGreatestOf : laws_FnExactGreatestOf.Pure := by
  intro a0 a1 _ _
  by_cases h : (1 ≤ a0 ∧ a0 ≤ 8) ∧ 1 ≤ a1 ∧ a1 ≤ 6
  · obtain ⟨⟨h1, h2⟩, h3, h4⟩ := h
    refine ⟨40, ?_⟩
    have g := grid ⟨(a0 - 1).toNat, by omega⟩ ⟨(a1 - 1).toNat, by omega⟩
    have e0 : 1 + (((a0 - 1).toNat : Nat) : Int) = a0 := by omega
    have e1 : 1 + (((a1 - 1).toNat : Nat) : Int) = a1 := by omega
    rw [e0, e1] at g; exact g
  · refine ⟨40, ?_⟩
    by_cases h1 : 1 ≤ a0 <;> by_cases h2 : a0 ≤ 8 <;> by_cases h3 : 1 ≤ a1 <;> by_cases h4 : a1 ≤ 6 <;>
      first
        | (exfalso; exact h ⟨⟨h1, h2⟩, h3, h4⟩)
        | simp [laws_FnExactGreatestOf.f, spec_GreatestOf.f, spec_GreatestOf.j0, spec_l1In.f, impl_GreatestOf.f, impl_GreatestOf.j0, impl_inRange.f, h1, h2, h3, h4]

end Go.Proofs.Ytdkcfhjbdbeebaa.Pure
