/- A great house has a snapshot of several parts: every call returns true, and what was there stays as it was. Conditions: none. -/
import Derived.Test.YtgmnkhopdoiegaaGreatDoorLS0
import Derived.Test.YtgmnkhopdoiegaaGreatDoorLSF
import Derived.Test.YtgmnkhopdoiegaaGreatDoorLSW
import Derived.Test.YtgmnkhopdoiegaaGreatDoorLSO
import Derived.Test.YtgmnkhopdoiegaaGreatDoorLSC
import Derived.Test.YtgmnkhopdoiegaaGreatDoorLS1
import Derived.Test.YtgmnkhopdoiegaaGreatDoorLS2A
import Derived.Test.YtgmnkhopdoiegaaGreatDoorLS2B
import Derived.Test.YtgmnkhopdoiegaaGreatDoorLS2C
import Derived.Test.YtgmnkhopdoiegaaGreatDoorLS3
import Derived.Test.YtgmnkhopdoiegaaGreatDoorLS4A
import Derived.Test.YtgmnkhopdoiegaaGreatDoorLS4B
import Derived.Test.YtgmnkhopdoiegaaGreatDoorLS4C
import Derived.Test.YtgmnkhopdoiegaaGreatDoorLS4D
import Derived.Test.YtgmnkhopdoiegaaGreatDoorLS5
import Derived.Test.YtgmnkhopdoiegaaGreatDoorLS6A
import Derived.Test.YtgmnkhopdoiegaaGreatDoorLS6B
import Derived.Test.YtgmnkhopdoiegaaGreatDoorLS7A
import Derived.Test.YtgmnkhopdoiegaaGreatDoorLS7B
import Derived.Test.YtgmnkhopdoiegaaGreatDoorLS8A
import Derived.Test.YtgmnkhopdoiegaaGreatDoorLS8B
import Derived.Test.YtgmnkhopdoiegaaGreatDoorLS8C
import Derived.Test.YtgmnkhopdoiegaaGreatDoorLS8D
import Derived.Test.YtgmnkhopdoiegaaGreatDoorLS8E
import Derived.Test.YtgmnkhopdoiegaaGreatDoorLS8F
import Derived.Test.YtgmnkhopdoiegaaGreatDoorLS8G
import Derived.Test.YtgmnkhopdoiegaaGreatDoorLS8H
import Derived.Test.YtgmnkhopdoiegaaGreatDoorLS8I
import Derived.Test.YtgmnkhopdoiegaaGreatDoorLS8J
import Derived.Test.YtgmnkhopdoiegaaGreatDoorEvSe
import Derived.ProofKit
namespace Go.Proofs.YtgmnkhopdoiegaaGreatDoor
open Go.AEv
set_option linter.unusedSectionVars false
theorem specOks : ∀ p ∈ specs, SpecOne Tryz.prog p.1 p.2 := by
  intro p hp
  simp only [specs, List.mem_cons, List.mem_nil_iff, or_false] at hp
  rcases hp with rfl | rfl | rfl | rfl | rfl | rfl | rfl | rfl | rfl | rfl | rfl | rfl | rfl | rfl | rfl | rfl | rfl | rfl | rfl | rfl | rfl | rfl | rfl | rfl | rfl
  iterate 19 · trivial
  · exact ⟨Tryz.f378, Tryz.func378, by kernel_rfl, by kernel_rfl, by kernel_rfl, by kernel_rfl⟩
  · exact ⟨Tryz.f493, Tryz.func493, by kernel_rfl, by kernel_rfl, by kernel_rfl, by kernel_rfl⟩
  · exact ⟨#[3], 26, ⟨Tryz.f372, Tryz.func372, by kernel_rfl, by kernel_rfl, by kernel_rfl, by kernel_rfl⟩, Tryz.underlying26, by kernel_rfl⟩
  · exact ⟨Tryz.f371, Tryz.func371, by kernel_rfl, by kernel_rfl, by kernel_rfl, by kernel_rfl⟩
  · exact ⟨Tryz.f195, Tryz.func195, by kernel_rfl, by kernel_rfl, by kernel_rfl, by kernel_rfl⟩
  · exact ⟨Tryz.f466, Tryz.func466, by kernel_rfl, by kernel_rfl, by kernel_rfl, by kernel_rfl⟩
theorem noCount : AEv.noCountB Tryz.prog = true := by kernel_rfl
theorem mixed : Tryz.prog.follows .mixedOrders = true := by kernel_rfl
theorem closed : AEv.closedTabs tabs = true := by kernel_rfl
def none0 : Inj := fun _ => none
theorem none_lt (n : Nat) : ∀ id z, none0 id = some z → id < n := fun _ _ h => by cases h
theorem base_none {id : Nat} (h : 300 ≤ id) : baseMap none0 id = none := by
  unfold baseMap
  rw [if_neg (by omega)]
  rfl
theorem base_le (σ : Inj) : (baseMap none0).le (baseMap σ) := by
  intro id x h
  unfold baseMap at h ⊢
  split
  · rename_i hi; rw [if_pos hi] at h; exact h
  · rename_i hi; rw [if_neg hi] at h; cases h
theorem allB_mem {f : Nat → Bool} : ∀ {l : List Nat}, allB f l = true → ∀ a ∈ l, f a = true
  | [], _, a, ha => by cases ha
  | b :: l, h, a, ha => by
    have h : ifB (f b) (allB f l) false = true := h
    rw [ifB_eq] at h
    split at h
    · rename_i hb
      rcases List.mem_cons.1 ha with rfl | ha
      · exact hb
      · exact allB_mem h a ha
    · cases h
theorem rng_mem {a n i : Nat} (h1 : a ≤ i) (h2 : i < a + n) : i ∈ rng a n := by
  unfold rng
  exact List.mem_map.2 ⟨i - a, List.mem_range.2 (by omega), by show a + (i - a) = i; omega⟩
variable [Unk]
theorem fit (facts : List Fact) : Fit (EnvOf facts) := fit_mk noCount mixed specOks
theorem noFacts : FactsOk E0 (baseMap none0) := fun f hf => by cases hf
abbrev True0 (f : Fact) : Prop := FactTrue Tryz.prog tabs (baseMap none0) f
theorem ok1 {f : Fact} (h : True0 f) : FactsOk (EnvOf [f]) (baseMap none0) := fun g hg => by
  have hg : g ∈ [f] := hg
  rw [List.mem_singleton.1 hg]; exact h
theorem ok2 {f g : Fact} (h : True0 f) (k : True0 g) : FactsOk (EnvOf [f, g]) (baseMap none0) := fun x hx => by
  have hx : x ∈ [f, g] := hx
  rcases List.mem_cons.1 hx with rfl | hx
  · exact h
  · rw [List.mem_singleton.1 hx]; exact k
theorem okAll {f : Nat → Fact} {n : Nat} (h : ∀ i, i < n → True0 (f i)) : FactsOk (EnvOf ((List.range n).map f)) (baseMap none0) := fun x hx => by
  have hx : x ∈ (List.range n).map f := hx
  obtain ⟨i, hi, rfl⟩ := List.mem_map.1 hx
  exact h i (List.mem_range.1 hi)
theorem ordT : True0 ordF := fact_make (E := E0) (fit []) (Nat.le_refl 60) (none_lt 60) noFacts closed ord1 ⟨trivial, trivial, trivial⟩
theorem newT : True0 newF := fact_make (E := EOrd) (fit [ordF]) (Nat.le_refl 60) (none_lt 60) (ok1 ordT) closed new1 trivial
theorem awakeT : True0 awakeF := fact_call (E := ENew) (fit [newF]) (Nat.le_refl 60) (none_lt 60) (ok1 newT) closed awake1 trivial trivial
theorem nm_ok {i : Nat} (hi : i < 200) : ∀ b ∈ nm i, b < 256 := by
  intro b hb
  have h1 : Nat.add 97 (Nat.div i 26) = 97 + i / 26 := rfl
  have h2 : Nat.add 97 (Nat.mod i 26) = 97 + i % 26 := rfl
  simp only [nm, h1, h2, List.mem_cons, List.mem_nil_iff, or_false] at hb
  omega
theorem chg_ok {i : Nat} (hi : i < 200) : WFs (baseMap none0) [chgA i] := by
  have h := nm_ok hi
  have e : ∀ b ∈ ([] : List Nat), b < 256 := fun b hb => by cases hb
  exact ⟨⟨trivial, trivial, trivial, trivial, trivial, trivial, trivial, h, e, e, e, trivial, trivial⟩, trivial⟩
theorem chkV {i : Nat} (hi : i < 200) : chkValid i = true := by
  by_cases h1 : i < 67
  · exact allB_mem validA i (rng_mem (by omega) (by omega))
  · by_cases h2 : i < 134
    · exact allB_mem validB i (rng_mem (by omega) (by omega))
    · exact allB_mem validC i (rng_mem (by omega) (by omega))
theorem chkA {i : Nat} (hi : i < 200) : chkApply i = true := by
  by_cases h1 : i < 50
  · exact allB_mem applyA i (rng_mem (by omega) (by omega))
  · by_cases h2 : i < 100
    · exact allB_mem applyB i (rng_mem (by omega) (by omega))
    · by_cases h3 : i < 150
      · exact allB_mem applyC i (rng_mem (by omega) (by omega))
      · exact allB_mem applyD i (rng_mem (by omega) (by omega))
theorem byName_eq {xs : List AVal} {i : Nat} (h : byName xs = some i) : i < 200 ∧ xs = [.str (nm i)] := by
  cases xs with
  | nil => cases h
  | cons a l =>
    obtain ⟨h1, h2⟩ := ifB_some h
    obtain ⟨h3, h4⟩ := ifB_some h2
    cases h4
    rw [nblt_eq, decide_eq_true_eq] at h1
    exact ⟨h1, vsbeq_eq _ _ h3⟩
theorem byChg_eq {xs : List AVal} {i : Nat} (h : byChg xs = some i) : i < 200 ∧ xs = [chgA i] := by
  cases xs with
  | nil => cases h
  | cons a l =>
    obtain ⟨h1, h2⟩ := ifB_some h
    obtain ⟨h3, h4⟩ := ifB_some h2
    cases h4
    rw [nblt_eq, decide_eq_true_eq] at h1
    exact ⟨h1, vsbeq_eq _ _ h3⟩
theorem validT : True0 (.callF validG) := by
  intro f xs r h
  obtain ⟨h1, h2⟩ := ifB_some h
  rw [nbeq_eq, beq_iff_eq] at h1
  obtain ⟨i, hi, h3⟩ := bnd_eq h2
  cases h3
  obtain ⟨hlt, rfl⟩ := byName_eq hi
  rw [h1]
  exact fact_call (E := E0) (fit []) (Nat.le_refl 60) (none_lt 60) noFacts closed (chkV hlt) ⟨nm_ok hlt, trivial⟩ trivial
theorem checkT : True0 (.callF checkG) := by
  intro f xs r h
  obtain ⟨h1, h2⟩ := ifB_some h
  rw [nbeq_eq, beq_iff_eq] at h1
  obtain ⟨i, hi, h3⟩ := bnd_eq h2
  cases h3
  obtain ⟨hlt, rfl⟩ := byChg_eq hi
  rw [h1]
  exact fact_call (E := E0) (fit []) (Nat.le_refl 60) (none_lt 60) noFacts closed (allB_mem check1 i (rng_mem (Nat.zero_le _) (by omega))) (chg_ok hlt) trivial
theorem cbytesT : True0 (.makeF cbytesG) := by
  intro f xs r h
  obtain ⟨h1, h2⟩ := ifB_some h
  rw [nbeq_eq, beq_iff_eq] at h1
  obtain ⟨i, hi, h3⟩ := bnd_eq h2
  cases h3
  obtain ⟨hlt, rfl⟩ := byChg_eq hi
  rw [h1]
  exact fact_make (E := ECb) (fit _) (Nat.le_refl 60) (none_lt 60) (ok1 checkT) closed (allB_mem cb1 i (rng_mem (Nat.zero_le _) (by omega))) (chg_ok hlt)
theorem applyT (i : Nat) (hi : i < 200) : True0 (applyF i) := fact_memo (E := EAp) (fit _) (ok2 validT checkT) closed (chkA hi)
theorem allT (σ : Inj) : FactTrue Tryz.prog tabs (baseMap σ) allF := fact_memoG (E := EAll) (fit _) (okAll applyT) (base_le σ) (fun _ h => base_none h) closed all1
theorem chkP {k : Nat} (hk : k < 5) : chkPay k = true := by
  by_cases h1 : k < 3
  · exact allB_mem payA k (rng_mem (by omega) (by omega))
  · exact allB_mem payB k (rng_mem (by omega) (by omega))
theorem payT (σ : Inj) (k : Nat) (hk : k < 5) : FactTrue Tryz.prog tabs (baseMap σ) (payF k) := fact_memoG (E := EPay) (fit _) (ok1 cbytesT) (base_le σ) (fun _ h => base_none h) closed (chkP hk)
theorem ofT : True0 ofF := fact_memo (E := EOf) (fit _) (ok1 validT) closed of1
theorem nrT : True0 nrF := fact_memo (E := ENr) (fit _) (ok1 ofT) closed nr1
theorem readT (σ : Inj) : FactTrue Tryz.prog tabs (baseMap σ) readF := fact_memoG (E := ERead) (fit _) (ok2 ordT nrT) (base_le σ) (fun _ h => base_none h) closed read1
theorem rbT (σ : Inj) : FactTrue Tryz.prog tabs (baseMap σ) rbF := fact_memoG (E := E0) (fit _) noFacts (base_le σ) (fun _ h => base_none h) closed rb1
theorem sbT (σ : Inj) : FactTrue Tryz.prog tabs (baseMap σ) sbF := fact_memoG (E := E0) (fit _) noFacts (base_le σ) (fun _ h => base_none h) closed sb1
theorem eqT (σ : Inj) : FactTrue Tryz.prog tabs (baseMap σ) eqF := fact_memoG (E := E0) (fit _) noFacts (base_le σ) (fun _ h => base_none h) closed eq1
theorem okTs {T : Nat} (h1 : 1 ≤ T) (h2 : T ≤ 5) : okT T = true := by
  have : T = 1 ∨ T = 2 ∨ T = 3 ∨ T = 4 ∨ T = 5 := by omega
  rcases this with rfl | rfl | rfl | rfl | rfl
  · exact okT1
  · exact okT2
  · exact okT3
  · exact okT4
  · exact okT5
theorem okPs {T : Nat} (h1 : 1 ≤ T) (h2 : T ≤ 5) : ∀ i, i < parts T → okP T i = true := by
  have : T = 1 ∨ T = 2 ∨ T = 3 ∨ T = 4 ∨ T = 5 := by omega
  intro i hi
  rcases this with rfl | rfl | rfl | rfl | rfl
  · have hp : parts 1 = 1 := rfl
    have : i = 0 := by omega
    subst this; exact okP10
  · have hp : parts 2 = 1 := rfl
    have : i = 0 := by omega
    subst this; exact okP20
  · have hp : parts 3 = 1 := rfl
    have : i = 0 := by omega
    subst this; exact okP30
  · have hp : parts 4 = 2 := rfl
    have : i = 0 ∨ i = 1 := by omega
    rcases this with rfl | rfl
    · exact okP40
    · exact okP41
  · have hp : parts 5 = 2 := rfl
    have : i = 0 ∨ i = 1 := by omega
    rcases this with rfl | rfl
    · exact okP50
    · exact okP51
theorem lawT {n c T : Nat} (hc : c < 65536) (hT : T = n % 5 + 1) : FactsOk (ELaw T (cls T (c % size T))) (baseMap (sigma n c T)) := by
  have h5 : n % 5 < 5 := Nat.mod_lt _ (by decide)
  suffices key : ∀ f ∈ [awakeF, newF, allF, readF, rbF, sbF, eqF] ++ (List.range T).map payF ++ crcsL T ++ cutFacts T (cls T (c % size T)), FactTrue Tryz.prog tabs (baseMap (sigma n c T)) f from fun f hf => key f hf
  refine all_app (all_app (all_app ?_ ?_) ?_) (cut_true hc hT)
  · exact all_cons (awakeT.mono (base_le _)) (all_cons (newT.mono (base_le _)) (all_cons (allT _) (all_cons (readT _) (all_cons (rbT _) (all_cons (sbT _) (all_cons (eqT _) all_nil))))))
  · intro f hf
    obtain ⟨k, hk, rfl⟩ := List.mem_map.1 hf
    have := List.mem_range.1 hk
    exact payT _ k (by omega)
  · rw [crcsL_eq (fun k hk => allB_mem okA1 k (rng_mem (Nat.zero_le _) (by omega))) (okPs (by omega) (by omega))]
    exact crcs_true doesUpd doesRef (okTs (by omega) (by omega))
theorem cls_lt (T k : Nat) (h : parts T = 1) (hk : k < size T) (h1 : 1 ≤ T) (h2 : T ≤ 5) : cls T k = 0 ∨ cls T k = 1 := by
  obtain ⟨_, g⟩ := sizes T h1 h2
  have g : size T = frameSize T 0 := by
    rcases g with ⟨_, g⟩ | ⟨g, _⟩
    · exact g
    · omega
  unfold cls
  split
  · exact .inl rfl
  · rw [if_pos (by omega)]; exact .inr rfl
theorem cls_le (T k : Nat) : cls T k = 0 ∨ cls T k = 1 ∨ cls T k = 2 ∨ cls T k = 3 := by
  unfold cls
  split
  · exact .inl rfl
  · split
    · exact .inr (.inl rfl)
    · split
      · exact .inr (.inr (.inl rfl))
      · exact .inr (.inr (.inr rfl))
theorem leaf (T c : Nat) (h1 : 1 ≤ T) (h2 : T ≤ 5) : chkLaw T (cls T (c % size T)) = true := by
  have : T = 1 ∨ T = 2 ∨ T = 3 ∨ T = 4 ∨ T = 5 := by omega
  rcases this with rfl | rfl | rfl | rfl | rfl
  · rcases cls_lt 1 (c % size 1) rfl (Nat.mod_lt _ (by decide)) h1 h2 with e | e <;> rw [e]
    · exact law10
    · exact law11
  · rcases cls_lt 2 (c % size 2) rfl (Nat.mod_lt _ (by decide)) h1 h2 with e | e <;> rw [e]
    · exact law20
    · exact law21
  · rcases cls_lt 3 (c % size 3) rfl (Nat.mod_lt _ (by decide)) h1 h2 with e | e <;> rw [e]
    · exact law30
    · exact law31
  · rcases cls_le 4 (c % size 4) with e | e | e | e <;> rw [e]
    · exact law40
    · exact law41
    · exact law42
    · exact law43
  · rcases cls_le 5 (c % size 5) with e | e | e | e <;> rw [e]
    · exact law50
    · exact law51
    · exact law52
    · exact law53
theorem walk (n c : Nat) (hc : c < 65536) (W : World) (hW : TabsIn Tryz.prog tabs W) :
    Calls Tryz.prog 3 #[.int .u8 (n : Nat), .int .u16 (c : Nat)] W fun e w' => Grown W w' ∧ e = .returned (.bool true) := by
  have h5 : n % 5 < 5 := Nat.mod_lt _ (by decide)
  have v0 := val_sym n c (n % 5 + 1) (id := 60) (x := nat .u8 n) (by decide) (by decide) rfl
  have v1 := val_sym n c (n % 5 + 1) (id := 61) (x := nat .u16 c) (by decide) (by decide) rfl
  have h := calls_of_chk (E := ELaw (n % 5 + 1) (cls (n % 5 + 1) (c % size (n % 5 + 1)))) (fit _) (show 60 ≤ 300 by decide) (sigma_lt n c (n % 5 + 1)) (lawT hc rfl) closed (leaf (n % 5 + 1) c (by omega) (by omega))
    (show WFs (baseMap (sigma n c (n % 5 + 1))) lawArgs from ⟨v0.1, v1.1, trivial⟩) hW
  have e : concs (baseMap (sigma n c (n % 5 + 1))) lawArgs = [.int .u8 (n : Nat), .int .u16 (c : Nat)] := by
    show [conc _ (S 60), conc _ (S 61)] = _
    rw [v0.2, v1.2]
    rfl
  rw [e] at h
  exact h.mono fun e w' hx => ⟨hx.1, hx.2.1⟩
end Go.Proofs.YtgmnkhopdoiegaaGreatDoor
