/- Which slices are equal: the walks of slices.Equal over ints and over bytes (the shelf's proof of slices.Equal, turned to this program's functions). Conditions: the slices' cells hold what is said. -/
import Derived.Test.YthhjhddekambcaaGreatDoorProg
import Derived.WalkKit
import Derived.Deep.LoopGhost
import Derived.Deep.Draws
import Derived.Shelf.RegionOpenPlain
namespace Go.Proofs.YthhjhddekambcaaGreatDoor
open Go.RowKit
set_option linter.unusedSectionVars false
theorem eq_take {l m : List Nat} {k : Nat} (hl : l.length = m.length) (h : ∀ j, j < k → l.getD j 0 = m.getD j 0) (hk : k = l.length) : l = m := by
  subst hk
  apply List.ext_getElem? 
  intro i
  rcases Nat.lt_or_ge i l.length with hi | hi
  · have e := h i hi
    simp only [List.getD_eq_getElem?_getD, List.getElem?_eq_getElem hi, List.getElem?_eq_getElem (hl ▸ hi : i < m.length), Option.getD_some] at e ⊢
    rw [e]
  · rw [List.getElem?_eq_none hi, List.getElem?_eq_none (hl ▸ hi)]
set_option maxHeartbeats 2000000 in
set_option maxRecDepth 100000 in
theorem eq90 (l m : List Nat) (b o c b' o' c' : Nat) (w : World) (hbig : l.length ≤ 9223372036854775807) (hbig2 : m.length ≤ 9223372036854775807)
    (hc1 : ∀ j, j < l.length → w.cell? ⟨b, o + j, none⟩ = some (.int .i64 (l.getD j 0 : Nat))) (hc2 : ∀ j, j < m.length → w.cell? ⟨b', o' + j, none⟩ = some (.int .i64 (m.getD j 0 : Nat))) :
    Calls Tryz.prog 90 #[.slice (some ⟨b, o, none⟩) l.length c, .slice (some ⟨b', o', none⟩) m.length c'] w fun e w2 => e = .returned (.bool (decide (l = m))) ∧ ∃ q, w2 = w.drewN q := by
  have mixed : Tryz.prog.follows .mixedOrders = true := by kernel_rfl
  by_cases hnm : l.length = m.length
  · generalize hn : m.length = n at hnm hbig2 hc2
    generalize hn' : l.length = n' at hnm hbig hc1
    subst hnm
    go_enter Tryz.func90, Tryz.ntmps90
    go_wp2
    go_loopg [13] n' (fun g s13 wr => ∃ k q : Nat, k ≤ n' ∧ n' - k ≤ g ∧ s13 = .int .i64 k ∧ wr = w.drewN q ∧ ∀ j, j < k → l.getD j 0 = m.getD j 0)
    case atStart => exact ⟨0, 0, Nat.zero_le _, by omega, rfl, rfl, fun j hj => absurd hj (Nat.not_lt_zero _)⟩
    case round =>
      obtain ⟨k, q, hk, hg, rfl, rfl, heq⟩ := hrel
      by_cases hlt : k < n'
      · have g1 : w.cell? ⟨b, o + k, none⟩ = some (.int .i64 (l.getD k 0 : Nat)) := hc1 k (by omega)
        have g2 : w.cell? ⟨b', o' + k, none⟩ = some (.int .i64 (m.getD k 0 : Nat)) := hc2 k (by omega)
        have A : Aside (∀ j, j < k → l.getD j 0 = m.getD j 0) := heq
        have A2 : Aside (l.length = n' ∧ m.length = n') := ⟨hn', hn⟩
        clear heq hc1 hc2 hn hn'
        generalize hxk : l.getD k 0 = x at g1
        generalize hyk : m.getD k 0 = y at g2
        have B : Aside (l.getD k 0 = x ∧ m.getD k 0 = y) := ⟨hxk, hyk⟩
        clear hxk hyk
        by_cases hxy : x = y
        · subst hxy
          go_wp2_with fail
          go_region_o
          go_wp2
          go_roundg (n' - (k + 1))
          case measure => omega
          case rel =>
            refine ⟨k + 1, q + 1, by omega, by omega, by go_num, rfl, fun j hj => ?_⟩
            by_cases e : j = k
            · subst e
              rw [B.out.1, B.out.2]
            · exact A.out j (by omega)
        · go_wp2_with fail
          go_region_o
          go_wp2
          go_ret
          refine ⟨?_, q + 1, rfl⟩
          have : l ≠ m := fun e => hxy (by rw [← B.out.1, ← B.out.2, e])
          simp [this]
      · have : k = n' := by omega
        subst this
        clear hc1 hc2
        go_wp2
        go_ret
        refine ⟨?_, q, rfl⟩
        simp [eq_take (hn'.trans hn.symm) heq hn'.symm]
  · have hnm' : ¬ (l.length : Int) = (m.length : Int) := by omega
    clear hc1 hc2
    have hne : l ≠ m := fun e => hnm (by rw [e])
    go_enter Tryz.func90, Tryz.ntmps90
    go_wp2
    go_ret
    refine ⟨?_, 0, rfl⟩
    simp [hne]
set_option maxHeartbeats 2000000 in
set_option maxRecDepth 100000 in
theorem eq6 (l m : List Nat) (b o c b' o' c' : Nat) (w : World) (hbig : l.length ≤ 9223372036854775807) (hbig2 : m.length ≤ 9223372036854775807)
    (hc1 : ∀ j, j < l.length → w.cell? ⟨b, o + j, none⟩ = some (.int .u8 (l.getD j 0 : Nat))) (hc2 : ∀ j, j < m.length → w.cell? ⟨b', o' + j, none⟩ = some (.int .u8 (m.getD j 0 : Nat))) :
    Calls Tryz.prog 6 #[.slice (some ⟨b, o, none⟩) l.length c, .slice (some ⟨b', o', none⟩) m.length c'] w fun e w2 => e = .returned (.bool (decide (l = m))) ∧ ∃ q, w2 = w.drewN q := by
  have mixed : Tryz.prog.follows .mixedOrders = true := by kernel_rfl
  by_cases hnm : l.length = m.length
  · generalize hn : m.length = n at hnm hbig2 hc2
    generalize hn' : l.length = n' at hnm hbig hc1
    subst hnm
    go_enter Tryz.func6, Tryz.ntmps6
    go_wp2
    go_loopg [13] n' (fun g s13 wr => ∃ k q : Nat, k ≤ n' ∧ n' - k ≤ g ∧ s13 = .int .i64 k ∧ wr = w.drewN q ∧ ∀ j, j < k → l.getD j 0 = m.getD j 0)
    case atStart => exact ⟨0, 0, Nat.zero_le _, by omega, rfl, rfl, fun j hj => absurd hj (Nat.not_lt_zero _)⟩
    case round =>
      obtain ⟨k, q, hk, hg, rfl, rfl, heq⟩ := hrel
      by_cases hlt : k < n'
      · have g1 : w.cell? ⟨b, o + k, none⟩ = some (.int .u8 (l.getD k 0 : Nat)) := hc1 k (by omega)
        have g2 : w.cell? ⟨b', o' + k, none⟩ = some (.int .u8 (m.getD k 0 : Nat)) := hc2 k (by omega)
        have A : Aside (∀ j, j < k → l.getD j 0 = m.getD j 0) := heq
        have A2 : Aside (l.length = n' ∧ m.length = n') := ⟨hn', hn⟩
        clear heq hc1 hc2 hn hn'
        generalize hxk : l.getD k 0 = x at g1
        generalize hyk : m.getD k 0 = y at g2
        have B : Aside (l.getD k 0 = x ∧ m.getD k 0 = y) := ⟨hxk, hyk⟩
        clear hxk hyk
        by_cases hxy : x = y
        · subst hxy
          go_wp2_with fail
          go_region_o
          go_wp2
          go_roundg (n' - (k + 1))
          case measure => omega
          case rel =>
            refine ⟨k + 1, q + 1, by omega, by omega, by go_num, rfl, fun j hj => ?_⟩
            by_cases e : j = k
            · subst e
              rw [B.out.1, B.out.2]
            · exact A.out j (by omega)
        · go_wp2_with fail
          go_region_o
          go_wp2
          go_ret
          refine ⟨?_, q + 1, rfl⟩
          have : l ≠ m := fun e => hxy (by rw [← B.out.1, ← B.out.2, e])
          simp [this]
      · have : k = n' := by omega
        subst this
        clear hc1 hc2
        go_wp2
        go_ret
        refine ⟨?_, q, rfl⟩
        simp [eq_take (hn'.trans hn.symm) heq hn'.symm]
  · have hnm' : ¬ (l.length : Int) = (m.length : Int) := by omega
    clear hc1 hc2
    have hne : l ≠ m := fun e => hnm (by rw [e])
    go_enter Tryz.func6, Tryz.ntmps6
    go_wp2
    go_ret
    refine ⟨?_, 0, rfl⟩
    simp [hne]
theorem lens90 (a1 a2 : Option Addr) (n c m d : Nat) (w : World) (hnm : n ≠ m) :
    Calls Tryz.prog 90 #[.slice a1 n c, .slice a2 m d] w fun e w2 => e = .returned (.bool false) ∧ ∃ q, w2 = w.drewN q := by
  have hnm' : ¬ (n : Int) = (m : Int) := by omega
  go_enter Tryz.func90, Tryz.ntmps90
  go_wp2
  go_ret
  exact ⟨rfl, 0, rfl⟩
set_option maxHeartbeats 1000000 in
theorem nil90 (w : World) : Calls Tryz.prog 90 #[.slice none 0 0, .slice none 0 0] w fun e w2 => e = .returned (.bool true) ∧ ∃ q, w2 = w.drewN q := by
  go_enter Tryz.func90, Tryz.ntmps90
  go_wp2
  go_loopg [13] 0 (fun _ s13 wr => s13 = .int .i64 0 ∧ wr = w)
  case atStart => exact ⟨rfl, rfl⟩
  case round =>
    obtain ⟨rfl, rfl⟩ := hrel
    go_wp2
    go_ret
    exact ⟨rfl, 0, rfl⟩
end Go.Proofs.YthhjhddekambcaaGreatDoor
