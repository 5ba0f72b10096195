/- A closed fact of the card: no function of the translation starts a goroutine, so the call starts none. Conditions: none. -/
import Derived.Test.YthhjhddekambcaaGreatDoorCards
import Derived.SevenTiedAt
namespace Go.Proofs.YthhjhddekambcaaGreatDoor
theorem goes_none {P : Program} (h : P.funcs.any Func.goes = false) (f : FuncId) : P.goes f = false := by
  have key : ∀ g : FuncId, (P.funcs[g]?).any Func.goes = false := by
    intro g
    cases hg : P.funcs[g]? with
    | none => rfl
    | some fn =>
      rw [Array.any_eq_false] at h
      obtain ⟨hlt, rfl⟩ := Array.getElem?_eq_some_iff.1 hg
      simpa using h g hlt
  unfold Program.goes
  rw [h, Bool.and_false, Bool.or_false, Bool.eq_false_iff]
  intro hx
  obtain ⟨g, _, hg⟩ := List.any_eq_true.1 hx
  rw [key g] at hg
  cases hg
theorem goesAt_none {P : Program} (h : P.funcs.any Func.goes = false) (s : Start) (n : String) : P.goesAt s n = false := by
  unfold Program.goesAt Program.goesFrom
  have h1 : ∀ o : Option FuncId, o.any P.goes = false := by
    intro o
    cases o with
    | none => rfl
    | some f => exact goes_none h f
  have h2 : ∀ l : List FuncId, l.any P.goes = false := by
    intro l
    rw [Bool.eq_false_iff]
    intro hx
    obtain ⟨f, _, hf⟩ := List.any_eq_true.1 hx
    rw [goes_none h f] at hf
    cases hf
  rw [h1, Bool.false_or]
  split
  · rfl
  · exact h2 _
theorem goesNone : Tryz.prog.funcs.any Func.goes = false := by kernel_rfl
theorem goesFact : false = Rows.auditEqualRow.goesBy Tryz.prog := (goesAt_none goesNone Rows.auditEqualRow.start Rows.auditEqualRow.func).symm
end Go.Proofs.YthhjhddekambcaaGreatDoor
