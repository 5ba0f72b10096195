/- Which changes leave an assurance valid: the facts of a case hold. Conditions: none. -/
import Derived.Test.YtnllgabplfojaaaGreatDoorAC4
import Derived.Test.YtnllgabplfojaaaGreatDoorEvSe
namespace Go.AEv
/-! ### The inputs -/
structure Inp where
  g : Nat
  by_ : Nat
  user : Nat
  role : Nat
  til : Nat
  kind : Nat
def Inp.ok (x : Inp) : Prop := x.g < 256 ∧ x.by_ < 256 ∧ x.user < 256 ∧ x.role < 256 ∧ x.til < 256 ∧ x.kind < 256

/-- what a symbol stands for -/
def symOf (x : Inp) (id : Nat) : Value :=
  if id = 60 then .int .u8 (x.g : Nat)
  else if id = 61 then .int .u8 (x.by_ : Nat)
  else if id = 62 then .int .u8 (x.user : Nat)
  else if id = 63 then .int .u8 (x.role : Nat)
  else if id = 64 then .int .u8 (x.til : Nat)
  else if id = 65 then .int .u8 (x.kind : Nat)
  else if id < 77 then .int .u8 (x.g / 2 ^ (id - 69) : Nat)
  else if id = 80 then .int .u8 (x.user % 5 : Nat)
  else if id = 81 then .int .i64 (x.user % 5 : Nat)
  else if id = 82 then .int .i64 (1 + x.user % 5 : Nat)
  else if id = 83 then .int .u8 (x.role % 4 : Nat)
  else if id = 84 then .int .i64 (x.role % 4 : Nat)
  else if id = 85 then .int .i64 (1 + x.role % 4 : Nat)
  else if id = 86 then .int .u8 (x.til % 4 : Nat)
  else if id = 87 then .int .i64 (x.til % 4 : Nat)
  else .int .i64 (3 + x.til % 4 : Nat)

def isKept (v : Value) : Bool := match v with | .int _ _ => true | .string _ => true | _ => false
theorem symOf_plain (x : Inp) (id : Nat) : ∃ z, symVal z = symOf x id := by
  have h : isKept (symOf x id) = true := by
    have key : ∀ (c : Prop) [Decidable c] (a b : Value), isKept a = true → isKept b = true → isKept (if c then a else b) = true := by
      intro c _ a b ha hb
      split
      · exact ha
      · exact hb
    unfold symOf
    repeat (refine key _ _ _ rfl ?_)
    rfl
  revert h
  cases symOf x id <;> intro h <;> first | exact symVal_int _ _ | exact symVal_str _ | (cases h; done)
noncomputable def codeOf (v : Value) : Nat × Nat × Nat := Classical.epsilon fun z => symVal z = v
noncomputable def sigma (x : Inp) : Inj := fun id => if 60 ≤ id ∧ id < 89 then some (codeOf (symOf x id)) else none
theorem sigma_lt (x : Inp) : ∀ id z, sigma x id = some z → id < 100 := by
  intro id z h
  unfold sigma at h
  split at h
  · rename_i h1; omega
  · cases h
theorem sigma_some (x : Inp) {id : Nat} (h1 : 60 ≤ id) (h2 : id < 89) : baseMap (sigma x) id = some (codeOf (symOf x id)) := by
  unfold baseMap sigma
  rw [if_neg (by omega), if_pos ⟨h1, h2⟩]
theorem sym_wf (x : Inp) {id : Nat} (h1 : 60 ≤ id) (h2 : id < 89) : WF (baseMap (sigma x)) (.sym id) := by
  simp [WF, sigma_some x h1 h2]
theorem sym_val (x : Inp) {id : Nat} (h1 : 60 ≤ id) (h2 : id < 89) : conc (baseMap (sigma x)) (.sym id) = symOf x id := by
  simp only [conc, sigma_some x h1 h2, Option.getD_some]
  exact Classical.epsilon_spec (symOf_plain x id)
theorem sym_eq (x : Inp) {id : Nat} {v : Value} (h1 : 60 ≤ id) (h2 : id < 89) (e : symOf x id = v) : conc (baseMap (sigma x)) (.sym id) = v := (sym_val x h1 h2).trans e

section
variable {P : Program} {tabs : List (Nat × ABlk)} {x : Inp}
theorem bin_int {op : BinOp} {k j : IntKind} {a b r : AVal} {m n : Int} (ha : WF (baseMap (sigma x)) a) (hb : WF (baseMap (sigma x)) b) (hr : WF (baseMap (sigma x)) r)
    (e1 : conc (baseMap (sigma x)) a = .int k m) (e2 : conc (baseMap (sigma x)) b = .int j n) {v : AVal} (h : intOp op k m j n = some v) (hv : conc (baseMap (sigma x)) v = conc (baseMap (sigma x)) r) : FactTrue P tabs (baseMap (sigma x)) (.bin op a b r) := by
  refine ⟨ha, hb, hr, by rw [e1]; rfl, fun t w => ?_⟩
  rw [e1, e2, ← hv]
  exact (run_intOp h t (baseMap (sigma x)) w).1
theorem rem_fact {id : Nat} {a c : Nat} {r : AVal} (h1 : 60 ≤ id) (h2 : id < 89) (e : symOf x id = .int .u8 (a : Nat)) (hc : c ≠ 0) (hr : WF (baseMap (sigma x)) r) (er : conc (baseMap (sigma x)) r = .int .u8 (a % c : Nat)) :
    FactTrue P tabs (baseMap (sigma x)) (.bin .rem (.sym id) (.int .u8 (.ofNat c)) r) := by
  refine bin_int (k := .u8) (j := .u8) (m := (a : Nat)) (n := (c : Nat)) (sym_wf x h1 h2) trivial hr (sym_eq x h1 h2 e) rfl (v := mkInt .u8 (itmod (a : Nat) (c : Nat))) ?_ ?_
  · show ifB (ibeq (c : Nat) (.ofNat 0)) none (same .u8 .u8 (mkInt .u8 (itmod (a : Nat) (c : Nat)))) = _
    have : ibeq ((c : Nat) : Int) (.ofNat 0) = false := by
      rw [ibeq_eq]
      simpa using hc
    rw [this]
    rfl
  · rw [mkInt_eq, itmod_eq, er]
    rfl
theorem wrapI {n : Int} (h1 : -9223372036854775808 ≤ n) (h2 : n ≤ 9223372036854775807) : IntKind.i64.wrap n = n := by
  unfold IntKind.wrap
  simp only [IntKind.signed, IntKind.bits, Bool.true_and]
  split
  · rename_i h
    have h := of_decide_eq_true h
    omega
  · rename_i h
    have h : n % 18446744073709551616 < 9223372036854775808 := by simpa using h
    show n % 18446744073709551616 = n
    omega
theorem wrap_u8 {n : Int} (h1 : 0 ≤ n) (h2 : n < 256) : IntKind.u8.wrap n = n := by
  unfold IntKind.wrap
  simp only [IntKind.signed, IntKind.bits, Bool.false_and]
  show n % 256 = n
  omega
theorem conv_fact {i j : Nat} {a : Nat} (h1 : 60 ≤ i) (h2 : i < 89) (h3 : 60 ≤ j) (h4 : j < 89) (ha : a < 256) (e1 : symOf x i = .int .u8 (a : Nat)) (e2 : symOf x j = .int .i64 (a : Nat)) :
    FactTrue P tabs (baseMap (sigma x)) (.conv .i64 (.sym i) (.sym j)) := by
  refine ⟨sym_wf x h1 h2, sym_wf x h3 h4, .u8, (a : Nat), sym_eq x h1 h2 e1, ?_⟩
  rw [sym_eq x h3 h4 e2, wrapI (by omega) (by omega)]
theorem add_fact {i j : Nat} {c a : Nat} (h1 : 60 ≤ i) (h2 : i < 89) (h3 : 60 ≤ j) (h4 : j < 89) (ha : a < 256) (hc : c < 256) (e1 : symOf x i = .int .i64 (a : Nat)) (e2 : symOf x j = .int .i64 (c + a : Nat)) :
    FactTrue P tabs (baseMap (sigma x)) (.bin .add (.int .i64 (.ofNat c)) (.sym i) (.sym j)) := by
  refine bin_int (k := .i64) (j := .i64) (m := (c : Nat)) (n := (a : Nat)) trivial (sym_wf x h1 h2) (sym_wf x h3 h4) rfl (sym_eq x h1 h2 e1) (v := mkInt .i64 (awrap .i64 (iadd (c : Nat) (a : Nat)))) rfl ?_
  rw [mkInt_eq, awrap_eq, iadd_eq, wrapI (by omega) (by omega), sym_eq x h3 h4 e2]
  rfl

theorem bits_true : ∀ f ∈ bitsF (x.g / 2 % 128), FactTrue P tabs (baseMap (sigma x)) f := by
  intro f hf
  unfold bitsF at hf
  obtain ⟨i, hi, hf⟩ := List.mem_flatMap.1 hf
  have hi : i < 7 := List.mem_range.1 hi
  have e1 : symOf x (70 + i) = .int .u8 (x.g / 2 ^ (i + 1) : Nat) := by
    unfold symOf
    rw [if_neg (by omega), if_neg (by omega), if_neg (by omega), if_neg (by omega), if_neg (by omega), if_neg (by omega), if_pos (by omega), show 70 + i - 69 = i + 1 from by omega]
  simp only [List.mem_cons, List.mem_nil_iff, or_false] at hf
  rcases hf with rfl | rfl
  · refine bin_int (k := .u8) (j := .u64) (m := (x.g : Nat)) (n := (i + 1 : Nat)) (sym_wf x (by decide) (by decide)) trivial (sym_wf x (by omega) (by omega)) (sym_eq x (by decide) (by decide) rfl) rfl
      (v := mkInt .u8 (x.g / 2 ^ (i + 1) : Nat)) ?_ ?_
    · have hs : shN .u8 (i + 1) = i + 1 := by
        unfold shN
        rw [ifB_eq, nble_eq, nbits_eq]
        exact if_pos (decide_eq_true (show i + 1 ≤ 8 by omega))
      show some (mkInt .u8 (.ofNat (Nat.div x.g (Nat.pow 2 (shN .u8 (i + 1)))))) = _
      rw [hs]
      rfl
    · rw [mkInt_eq, sym_eq x (by omega) (by omega) e1]
      rfl
  · refine rem_fact (by omega) (by omega) e1 (by decide) trivial ?_
    have key : x.g / 2 % 128 / 2 ^ i % 2 = x.g / 2 ^ (i + 1) % 2 := by
      match i, hi with
      | 0, _ => show x.g / 2 % 128 / 1 % 2 = x.g / 2 % 2; omega
      | 1, _ => show x.g / 2 % 128 / 2 % 2 = x.g / 4 % 2; omega
      | 2, _ => show x.g / 2 % 128 / 4 % 2 = x.g / 8 % 2; omega
      | 3, _ => show x.g / 2 % 128 / 8 % 2 = x.g / 16 % 2; omega
      | 4, _ => show x.g / 2 % 128 / 16 % 2 = x.g / 32 % 2; omega
      | 5, _ => show x.g / 2 % 128 / 32 % 2 = x.g / 64 % 2; omega
      | 6, _ => show x.g / 2 % 128 / 64 % 2 = x.g / 128 % 2; omega
      | n + 7, h => exact absurd h (by omega)
    show Value.int .u8 (.ofNat (x.g / 2 % 128 / 2 ^ i % 2)) = _
    rw [key]
    rfl

theorem act_true (hx : x.ok) : ∀ f ∈ actF (x.by_ % 5), FactTrue P tabs (baseMap (sigma x)) f := by
  obtain ⟨_, h2, h3, h4, h5, _⟩ := hx
  have s80 : symOf x 80 = .int .u8 (x.user % 5 : Nat) := rfl
  have s81 : symOf x 81 = .int .i64 (x.user % 5 : Nat) := rfl
  have s82 : symOf x 82 = .int .i64 (1 + x.user % 5 : Nat) := rfl
  have s83 : symOf x 83 = .int .u8 (x.role % 4 : Nat) := rfl
  have s84 : symOf x 84 = .int .i64 (x.role % 4 : Nat) := rfl
  have s85 : symOf x 85 = .int .i64 (1 + x.role % 4 : Nat) := rfl
  have s86 : symOf x 86 = .int .u8 (x.til % 4 : Nat) := rfl
  have s87 : symOf x 87 = .int .i64 (x.til % 4 : Nat) := rfl
  have s88 : symOf x 88 = .int .i64 (3 + x.til % 4 : Nat) := rfl
  intro f hf
  simp only [actF, List.mem_cons, List.mem_nil_iff, or_false] at hf
  rcases hf with rfl | rfl | rfl | rfl | rfl | rfl | rfl | rfl | rfl | rfl
  · exact rem_fact (a := x.by_) (by decide) (by decide) rfl (by decide) trivial rfl
  · exact rem_fact (a := x.user) (by decide) (by decide) rfl (by decide) (sym_wf x (by decide) (by decide)) (sym_eq x (by decide) (by decide) s80)
  · exact conv_fact (by decide) (by decide) (by decide) (by decide) (by omega) s80 s81
  · exact add_fact (by decide) (by decide) (by decide) (by decide) (by omega) (by omega) s81 s82
  · exact rem_fact (a := x.role) (by decide) (by decide) rfl (by decide) (sym_wf x (by decide) (by decide)) (sym_eq x (by decide) (by decide) s83)
  · exact conv_fact (by decide) (by decide) (by decide) (by decide) (by omega) s83 s84
  · exact add_fact (by decide) (by decide) (by decide) (by decide) (by omega) (by omega) s84 s85
  · exact rem_fact (a := x.til) (by decide) (by decide) rfl (by decide) (sym_wf x (by decide) (by decide)) (sym_eq x (by decide) (by decide) s86)
  · exact conv_fact (by decide) (by decide) (by decide) (by decide) (by omega) s86 s87
  · exact add_fact (by decide) (by decide) (by decide) (by decide) (by omega) (by omega) s87 s88

theorem kind_true (hx : x.ok) {k : Nat} (h2 : x.kind % 2 = k % 2) (h12 : (x.kind == 12) = (k == 12)) (h13 : (x.kind == 13) = (k == 13)) : ∀ f ∈ kindF k, FactTrue P tabs (baseMap (sigma x)) f := by
  have hk := hx.2.2.2.2.2
  have w65 : WF (baseMap (sigma x)) (.sym 65) := sym_wf x (by decide) (by decide)
  have e65 : conc (baseMap (sigma x)) (.sym 65) = .int .u8 (x.kind : Nat) := sym_eq x (by decide) (by decide) rfl
  have key : ∀ c : Nat, (((x.kind : Nat) : Int) == ((c : Nat) : Int)) = (x.kind == c) := by
    intro c
    rw [Bool.eq_iff_iff]
    simp only [beq_iff_eq]
    omega
  intro f hf
  simp only [kindF, List.mem_cons, List.mem_nil_iff, or_false] at hf
  rcases hf with rfl | rfl | rfl | rfl
  · refine rem_fact (a := x.kind) (by decide) (by decide) rfl (by decide) trivial ?_
    rw [h2]
    rfl
  · refine ⟨w65, w65, .u8, (x.kind : Nat), e65, ?_⟩
    rw [e65, wrap_u8 (by omega) (by omega)]
  · refine ⟨w65, trivial, .inl ⟨rfl, .u8, (x.kind : Nat), (12 : Nat), e65, rfl, ?_⟩⟩
    rw [key, h12]
  · refine ⟨w65, trivial, .inl ⟨rfl, .u8, (x.kind : Nat), (13 : Nat), e65, rfl, ?_⟩⟩
    rw [key, h13]

theorem args_ok (rv : Bool) : WFs (baseMap (sigma x)) (argsA rv) ∧ (concs (baseMap (sigma x)) (argsA rv)).toArray =
    #[.int .u8 (x.g : Nat), .agg #[.int .u8 (x.by_ : Nat), .int .u8 (x.user : Nat), .int .u8 (x.role : Nat), .int .u8 (x.til : Nat), .bool rv], .int .u8 (x.kind : Nat)] := by
  have s : ∀ id, 60 ≤ id → id < 89 → WF (baseMap (sigma x)) (.sym id) := fun id h1 h2 => sym_wf x h1 h2
  refine ⟨⟨s 60 (by decide) (by decide), ⟨s 61 (by decide) (by decide), s 62 (by decide) (by decide), s 63 (by decide) (by decide), s 64 (by decide) (by decide), trivial, trivial⟩, s 65 (by decide) (by decide), trivial⟩, ?_⟩
  have e : ∀ id v, 60 ≤ id → id < 89 → symOf x id = v → conc (baseMap (sigma x)) (.sym id) = v := fun id v h1 h2 h => sym_eq x h1 h2 h
  have e60 := e 60 (.int .u8 (x.g : Nat)) (by decide) (by decide) rfl
  have e61 := e 61 (.int .u8 (x.by_ : Nat)) (by decide) (by decide) rfl
  have e62 := e 62 (.int .u8 (x.user : Nat)) (by decide) (by decide) rfl
  have e63 := e 63 (.int .u8 (x.role : Nat)) (by decide) (by decide) rfl
  have e64 := e 64 (.int .u8 (x.til : Nat)) (by decide) (by decide) rfl
  have e65 := e 65 (.int .u8 (x.kind : Nat)) (by decide) (by decide) rfl
  have hb : conc (baseMap (sigma x)) (.bool rv) = .bool rv := rfl
  simp only [argsA, concs, e60, e65]
  rw [conc]
  simp only [concs, e61, e62, e63, e64, hb]
end
end Go.AEv
