/- A transaction whose frame would be too long: every call returns true, and what was there stays as it was. Conditions: none. -/
import Derived.Test.YtjgkfgdpcohfmaaGreatDoorLL1
import Derived.Test.YtjgkfgdpcohfmaaGreatDoorLL2
import Derived.Test.YtjgkfgdpcohfmaaGreatDoorLL5A
import Derived.Test.YtjgkfgdpcohfmaaGreatDoorLL5B
import Derived.Test.YtjgkfgdpcohfmaaGreatDoorLL5C
import Derived.Test.YtjgkfgdpcohfmaaGreatDoorLL5D
import Derived.Test.YtjgkfgdpcohfmaaGreatDoorLL5E
import Derived.Test.YtjgkfgdpcohfmaaGreatDoorLLW
import Derived.Test.YtjgkfgdpcohfmaaGreatDoorEvSe
import Derived.ProofKit
namespace Go.Proofs.YtjgkfgdpcohfmaaGreatDoor
open Go.AEv (specs tabs factNew factAwake E0 E1 EL fns factsL baseMap Inj FactTrue FactsOk TabsIn Fit SpecOne mkEnv AVal Unk)
set_option linter.unusedSectionVars false
theorem specOks : ∀ p ∈ specs, SpecOne Tryz.prog p.1 p.2 := by
  intro p hp
  simp only [specs, List.mem_cons, List.mem_nil_iff, or_false] at hp
  rcases hp with rfl | rfl | rfl | rfl | rfl | rfl | rfl | rfl | rfl | rfl | rfl | rfl | rfl | rfl
  · trivial
  · trivial
  · trivial
  · trivial
  · trivial
  · trivial
  · trivial
  · trivial
  · exact ⟨Tryz.f348, Tryz.func348, by kernel_rfl, by kernel_rfl, by kernel_rfl, by kernel_rfl⟩
  · exact ⟨Tryz.f464, Tryz.func464, by kernel_rfl, by kernel_rfl, by kernel_rfl, by kernel_rfl⟩
  · exact ⟨#[3], 43, ⟨Tryz.f104, Tryz.func104, by kernel_rfl, by kernel_rfl, by kernel_rfl, by kernel_rfl⟩, Tryz.underlying43, by kernel_rfl⟩
  · exact ⟨Tryz.f103, Tryz.func103, by kernel_rfl, by kernel_rfl, by kernel_rfl, by kernel_rfl⟩
  · exact ⟨Tryz.f164, Tryz.func164, by kernel_rfl, by kernel_rfl, by kernel_rfl, by kernel_rfl⟩
  · exact ⟨Tryz.f437, Tryz.func437, by kernel_rfl, by kernel_rfl, by kernel_rfl, by kernel_rfl⟩
theorem noCount : AEv.noCountB Tryz.prog = true := by kernel_rfl
theorem mixed : Tryz.prog.follows .mixedOrders = true := by kernel_rfl
theorem closed : AEv.closedTabs tabs = true := by kernel_rfl
def none0 : Inj := fun _ => none
theorem none_lt (n : Nat) : ∀ id z, none0 id = some z → id < n := fun _ _ h => by cases h
variable [Unk]
theorem fit (facts : List AEv.Fact) : Fit (mkEnv Tryz.prog specs facts tabs) := AEv.fit_mk noCount mixed specOks
theorem noFacts : FactsOk E0 (baseMap none0) := fun f hf => by cases hf
theorem new0 : FactTrue Tryz.prog tabs (baseMap none0) factNew :=
  AEv.fact_make (E := E0) (fit []) (Nat.le_refl 60) (none_lt 60) noFacts closed AEv.chk0 trivial
theorem facts1 : FactsOk E1 (baseMap none0) := fun f hf => by
  have hf : f ∈ [factNew] := hf
  rw [List.mem_singleton.1 hf]; exact new0
theorem awake0 : FactTrue Tryz.prog tabs (baseMap none0) factAwake :=
  AEv.fact_call (E := E1) (fit [factNew]) (Nat.le_refl 60) (none_lt 60) facts1 closed AEv.chk1 trivial trivial
theorem base_le (σ : Inj) : (baseMap none0).le (baseMap σ) := by
  intro id x h
  unfold baseMap at h ⊢
  split
  · rename_i hi; rw [if_pos hi] at h; exact h
  · rename_i hi; rw [if_neg hi] at h; cases h
theorem both {c d : Nat} {big : Bool} (h : AEv.chkP c d big = true) (wrong : Bool) : AEv.chkL c d big wrong = true := by
  unfold AEv.chkP at h
  rw [AEv.band_eq, Bool.and_eq_true] at h
  cases wrong
  · exact h.2
  · exact h.1
theorem leaves (c d : Nat) (hc : c < 3) (hd : d < 3) (wrong : Bool) : AEv.chkL c d false wrong = true := by
  refine both ?_ wrong
  match c, d, hc, hd with
  | 0, 0, _, _ => exact AEv.lv00
  | 0, 1, _, _ => exact AEv.lv01
  | 0, 2, _, _ => exact AEv.lv02
  | 1, 0, _, _ => exact AEv.lv10
  | 1, 1, _, _ => exact AEv.lv11
  | 1, 2, _, _ => exact AEv.lv12
  | 2, 0, _, _ => exact AEv.lv20
  | 2, 1, _, _ => exact AEv.lv21
  | 2, 2, _, _ => exact AEv.lv22
  | n + 3, _, h, _ => exact absurd h (by omega)
  | _, n + 3, _, h => exact absurd h (by omega)
theorem cls_lt (n : Nat) : AEv.cls n < 3 := by
  unfold AEv.cls
  split
  · decide
  · split <;> decide
theorem small_of (n : Nat) (h : AEv.cls n ≠ 2) : (AEv.p1 n).length ≤ 200 := by
  have h1 := AEv.c1_cls n
  have h2 := AEv.c1_length n
  have h3 := AEv.p1_length n
  have h4 := AEv.grp_len (AEv.lenL n)
  have h5 := AEv.grp_len (AEv.c1 n).length
  omega
theorem leaf (a b : Nat) (wrong : Bool) : AEv.chkL (AEv.cls a) (AEv.cls b) (decide (9000 < (AEv.all a b).length)) wrong = true := by
  by_cases hb : 9000 < (AEv.all a b).length
  · have h1 := AEv.all_length a b
    have h2 := AEv.p1_bounds a
    have h3 := AEv.p1_bounds b
    have ca : AEv.cls a = 2 := by
      by_cases h : AEv.cls a = 2
      · exact h
      · have := small_of a h; omega
    have cb : AEv.cls b = 2 := by
      by_cases h : AEv.cls b = 2
      · exact h
      · have := small_of b h; omega
    rw [decide_eq_true hb, ca, cb]
    exact both AEv.lv22b wrong
  · rw [decide_eq_false hb]
    exact leaves _ _ (cls_lt a) (cls_lt b) wrong

theorem walk (a b : Nat) (ha : a < 65536) (hb : b < 65536) (wrong : Bool) (W : World) (hT : TabsIn Tryz.prog tabs W) :
    Calls Tryz.prog 3 #[.int .u16 (a : Nat), .int .u16 (b : Nat), .bool wrong] W fun e w' => AEv.Grown W w' ∧ e = .returned (.bool true) := by
  have hfacts : FactsOk (EL (AEv.cls a) (AEv.cls b) (decide (9000 < (AEv.all a b).length))) (baseMap (AEv.sigma a b)) := by
    intro f hf
    have hf : f ∈ [factAwake, factNew] ++ AEv.bothF fns (AEv.cls a) (AEv.cls b) (decide (9000 < (AEv.all a b).length)) := hf
    rcases List.mem_append.1 hf with hf | hf
    · simp only [List.mem_cons, List.mem_nil_iff, or_false] at hf
      rcases hf with rfl | rfl
      · exact awake0.mono (base_le _)
      · exact new0.mono (base_le _)
    · exact AEv.bothF_true does ha hb f hf
  have v0 := AEv.val_sym a b (id := 60) (x := AEv.nat .u16 a) (by decide) (by decide) rfl
  have v1 := AEv.val_sym a b (id := 61) (x := AEv.nat .u16 b) (by decide) (by decide) rfl
  have h := AEv.calls_of_chk (E := EL (AEv.cls a) (AEv.cls b) (decide (9000 < (AEv.all a b).length))) (fit (factsL (AEv.cls a) (AEv.cls b) (decide (9000 < (AEv.all a b).length)))) (show 60 ≤ 300 by decide) (AEv.sigma_lt a b) hfacts closed (leaf a b wrong)
    (show AEv.WFs (baseMap (AEv.sigma a b)) (AEv.argsL wrong) from ⟨v0.1, v1.1, trivial, trivial⟩) hT
  have e : AEv.concs (baseMap (AEv.sigma a b)) (AEv.argsL wrong) = [.int .u16 (a : Nat), .int .u16 (b : Nat), .bool wrong] := by
    show [AEv.conc _ (AEv.S 60), AEv.conc _ (AEv.S 61), _] = _
    rw [v0.2, v1.2]
    rfl
  rw [e] at h
  exact h.mono fun e w' hx => ⟨hx.1, hx.2.1⟩
end Go.Proofs.YtjgkfgdpcohfmaaGreatDoor
