/- A great house has a snapshot of several parts: what is given to the law's cases holds of all numbers. Conditions: what the checksums' functions do. -/
import Derived.Test.YtgmnkhopdoiegaaGreatDoorLSD
import Derived.Test.YtgmnkhopdoiegaaGreatDoorEvSe
import Derived.KernelRfl
namespace Go.AEv
set_option linter.unusedSectionVars false
variable [Unk]
def nat (k : IntKind) (n : Nat) : Value := .int k (n : Nat)
def text (l : List Nat) : Value := .string (str l)
/-- a value of the map -/
def Val (β : Inj) (v : AVal) (x : Value) : Prop := WF β v ∧ conc β v = x

/-! ### Facts at numbers and strings -/
section
variable {P : Program} {tabs : List (Nat × ABlk)} {β : Inj}
theorem val_int (k : IntKind) (n : Nat) : Val β (.int k (.ofNat n)) (nat k n) := ⟨trivial, rfl⟩
theorem val_str (l : List Nat) (h : ∀ x ∈ l, x < 256) : Val β (.str l) (text l) := ⟨h, rfl⟩
theorem half_le (k : IntKind) : half k ≤ full k := by cases k <;> decide
theorem twosN (k : IntKind) {n : Nat} (h : n < half k) : twos k n = n := by
  show Nat.mod n (full k) = n
  exact Nat.mod_eq_of_lt (Nat.lt_of_lt_of_le h (half_le k))
theorem backN (k : IntKind) {n : Nat} (h : n < half k) : back k n = (n : Nat) := by
  unfold back
  rw [ifB_eq, nblt_eq, if_pos (decide_eq_true h)]
  rfl
theorem wrapN (k : IntKind) {n : Nat} (h : n < half k) : k.wrap (n : Nat) = (n : Nat) := by
  rw [← awrap_eq]
  unfold awrap
  rw [twosN k h, backN k h]
theorem same_self (k : IntKind) (v : AVal) : same k k v = some v := by
  unfold same
  rw [(kbeq_eq k k).2 rfl]
  rfl
theorem binN {op : BinOp} {k j l : IntKind} {a b r : AVal} {m n v : Nat} (ha : Val β a (nat k m)) (hb : Val β b (nat j n)) (hr : Val β r (nat l v)) (h : intOp op k (m : Nat) j (n : Nat) = some (.int l (v : Nat))) : FactTrue P tabs β (.bin op a b r) := by
  refine ⟨ha.1, hb.1, hr.1, by rw [ha.2]; rfl, fun t w => ?_⟩
  rw [ha.2, hb.2, hr.2]
  exact (run_intOp h t β w).1
theorem cmpN {op : BinOp} {k j : IntKind} {a b : AVal} {m n : Nat} {v : Bool} (ha : Val β a (nat k m)) (hb : Val β b (nat j n)) (h : intOp op k (m : Nat) j (n : Nat) = some (.bool v)) : FactTrue P tabs β (.bin op a b (.bool v)) := by
  refine ⟨ha.1, hb.1, trivial, by rw [ha.2]; rfl, fun t w => ?_⟩
  rw [ha.2, hb.2]
  exact (run_intOp h t β w).1
theorem f_rem {k : IntKind} {a r : AVal} {m n : Nat} (hn : n ≠ 0) (ha : Val β a (nat k m)) (hr : Val β r (nat k (m % n))) : FactTrue P tabs β (.bin .rem a (.int k (.ofNat n)) r) :=
  binN ha (val_int k n) hr (by
    show ifB (ibeq (n : Nat) (.ofNat 0)) none (same k k (mkInt k (itmod (m : Nat) (n : Nat)))) = _
    have : ibeq ((n : Nat) : Int) (.ofNat 0) = false := by rw [ibeq_eq]; simpa using hn
    rw [this, ifB_false, same_self, mkInt_eq]
    rfl)
theorem f_lss {k : IntKind} {a b : AVal} {m n : Nat} {v : Bool} (ha : Val β a (nat k m)) (hb : Val β b (nat k n)) (h : decide (m < n) = v) : FactTrue P tabs β (.bin .lss a b (.bool v)) :=
  cmpN ha hb (by
    show same k k (mkBool (ilt (m : Nat) (n : Nat))) = _
    rw [same_self, mkBool_eq, ilt_eq, ← h]
    congr 2
    simp)
theorem f_conv {k j : IntKind} {a r : AVal} {m : Nat} (hm : m < half k) (ha : Val β a (nat j m)) (hr : Val β r (nat k m)) : FactTrue P tabs β (.conv k a r) :=
  ⟨ha.1, hr.1, j, (m : Nat), ha.2, by rw [hr.2, wrapN k hm]; rfl⟩
theorem text_size (l : List Nat) : (str l).size = l.length := str_size l
theorem f_num {q N lo hi : Nat} (h : Val β (S q) (nat .i64 N)) (h1 : lo ≤ N) (h2 : N ≤ hi) : FactTrue P tabs β (.num q lo hi) := ⟨h.1, N, h.2, h1, h2⟩
theorem f_diff {q r m N : Nat} (h : Val β (S q) (nat .i64 N)) (hm : m ≤ N) (h2 : Val β (S r) (nat .i64 (N - m))) : FactTrue P tabs β (.diff q m r) := ⟨h.1, h2.1, N, h.2, hm, h2.2⟩
theorem all_app {l m : List Fact} (h1 : ∀ f ∈ l, FactTrue P tabs β f) (h2 : ∀ f ∈ m, FactTrue P tabs β f) : ∀ f ∈ l ++ m, FactTrue P tabs β f := by
  intro f hf
  rcases List.mem_append.1 hf with h | h
  · exact h1 f h
  · exact h2 f h
theorem all_nil : ∀ f ∈ ([] : List Fact), FactTrue P tabs β f := by intro f hf; cases hf
theorem all_cons {f : Fact} {l : List Fact} (h1 : FactTrue P tabs β f) (h2 : ∀ g ∈ l, FactTrue P tabs β g) : ∀ g ∈ f :: l, FactTrue P tabs β g := by
  intro g hg
  rcases List.mem_cons.1 hg with rfl | h
  · exact h1
  · exact h2 g h
end

/-! ### What is kept -/
def symOf (n c T id : Nat) : Value :=
  if id = 60 then nat .u8 n else if id = 61 then nat .u16 c else if id = 62 then nat .i64 c else if id = 63 then nat .i64 (c % size T) else if id = 64 then nat .i64 (c % size T - frameSize T 0)
  else if id = 65 then nat .i64 (c % size T - frameSize T 0 - 4) else nat .i64 (c % size T - 4)
theorem symOf_int (n c T id : Nat) : ∃ k m, symOf n c T id = .int k m := by
  unfold symOf
  repeat (first | exact ⟨_, _, rfl⟩ | split)
theorem symOf_plain (n c T id : Nat) : ∃ z, symVal z = symOf n c T id := by
  obtain ⟨k, m, e⟩ := symOf_int n c T id
  rw [e]
  exact symVal_int k m
noncomputable def codeOf (v : Value) : Nat × Nat × Nat := Classical.epsilon fun z => symVal z = v
noncomputable def sigma (n c T : Nat) : Inj := fun id => if 60 ≤ id ∧ id < 300 then some (codeOf (symOf n c T id)) else none
theorem sigma_lt (n c T : Nat) : ∀ id z, sigma n c T id = some z → id < 300 := by
  intro id z h
  unfold sigma at h
  split at h
  · rename_i h1; exact h1.2
  · cases h
theorem val_sym (n c T : Nat) {id : Nat} {x : Value} (h1 : 60 ≤ id) (h2 : id < 300) (e : symOf n c T id = x) : Val (baseMap (sigma n c T)) (S id) x := by
  have hs : baseMap (sigma n c T) id = some (codeOf (symOf n c T id)) := by
    unfold baseMap sigma
    rw [if_neg (by omega), if_pos ⟨h1, h2⟩]
  refine ⟨by simp [S, WF, hs], ?_⟩
  simp only [S, conc, hs, Option.getD_some]
  rw [← e]
  exact Classical.epsilon_spec (symOf_plain n c T id)

/-! ### Where the cut is -/
theorem sizes : ∀ T, 1 ≤ T → T ≤ 5 → (16 < frameSize T 0 ∧ size T < 20000) ∧ ((parts T = 1 ∧ size T = frameSize T 0) ∨ (parts T = 2 ∧ size T = frameSize T 0 + frameSize T 1 ∧ 16 < frameSize T 1)) := by
  intro T h1 h2
  have : T = 1 ∨ T = 2 ∨ T = 3 ∨ T = 4 ∨ T = 5 := by omega
  rcases this with rfl | rfl | rfl | rfl | rfl <;> decide
/-- the case of a cut -/
def cls (T k : Nat) : Nat := if k < 8 then 0 else if k < frameSize T 0 then 1 else if k < frameSize T 0 + 8 then 2 else 3
section
variable {P : Program} {tabs : List (Nat × ABlk)}
theorem cut_true {n c T : Nat} (hc : c < 65536) (hT : T = n % 5 + 1) : ∀ f ∈ cutFacts T (cls T (c % size T)), FactTrue P tabs (baseMap (sigma n c T)) f := by
  have hT1 : 1 ≤ T := by omega
  have hT2 : T ≤ 5 := by omega
  obtain ⟨⟨g1, g2⟩, g3⟩ := sizes T hT1 hT2
  have v60 := val_sym n c T (id := 60) (x := nat .u8 n) (by decide) (by decide) rfl
  have v61 := val_sym n c T (id := 61) (x := nat .u16 c) (by decide) (by decide) rfl
  have v62 := val_sym n c T (id := 62) (x := nat .i64 c) (by decide) (by decide) rfl
  have v63 := val_sym n c T (id := 63) (x := nat .i64 (c % size T)) (by decide) (by decide) rfl
  have v64 := val_sym n c T (id := 64) (x := nat .i64 (c % size T - frameSize T 0)) (by decide) (by decide) rfl
  have v65 := val_sym n c T (id := 65) (x := nat .i64 (c % size T - frameSize T 0 - 4)) (by decide) (by decide) rfl
  have v66 := val_sym n c T (id := 66) (x := nat .i64 (c % size T - 4)) (by decide) (by decide) rfl
  have hs : 0 < size T := by rcases g3 with ⟨_, h⟩ | ⟨_, h, _⟩ <;> omega
  have hk : c % size T < size T := Nat.mod_lt _ hs
  have a1 : FactTrue P tabs (baseMap (sigma n c T)) (.bin .rem (S 60) (.int .u8 (.ofNat 5)) (.int .u8 (.ofNat (T - 1)))) := f_rem (by decide) v60 (by rw [hT, Nat.add_sub_cancel]; exact val_int _ _)
  have a2 : FactTrue P tabs (baseMap (sigma n c T)) (.conv .i64 (S 61) (S 62)) := f_conv (by show c < 9223372036854775808; omega) v61 v62
  have a3 : FactTrue P tabs (baseMap (sigma n c T)) (.bin .rem (S 62) (i64 (size T)) (S 63)) := f_rem (by omega) v62 v63
  generalize hkk : c % size T = k at *
  have a5 : ∀ b, decide (k < 8) = b → FactTrue P tabs (baseMap (sigma n c T)) (.bin .lss (S 63) (i64 8) (.bool b)) := fun b h => f_lss v63 (val_int _ _) h
  have a6 : ∀ b, decide (k < frameSize T 0) = b → FactTrue P tabs (baseMap (sigma n c T)) (.bin .lss (S 63) (i64 (frameSize T 0)) (.bool b)) := fun b h => f_lss v63 (val_int _ _) h
  have a7 : ∀ b, decide (k - frameSize T 0 < 8) = b → FactTrue P tabs (baseMap (sigma n c T)) (.bin .lss (S 64) (i64 8) (.bool b)) := fun b h => f_lss v64 (val_int _ _) h
  have a8 : ∀ b, decide (k - frameSize T 0 < frameSize T 1) = b → FactTrue P tabs (baseMap (sigma n c T)) (.bin .lss (S 64) (i64 (frameSize T 1)) (.bool b)) := fun b h => f_lss v64 (val_int _ _) h
  unfold cls
  split
  · rename_i h0
    simp only [cutFacts, cutLo, cutHi, if_true, Nat.zero_le, decide_true, List.append_nil]
    exact all_cons a1 (all_cons a2 (all_cons a3 (all_cons (f_num v63 (by omega) (by omega)) (all_cons (a5 _ (by simpa using h0)) (all_cons (a6 _ (by simp; omega)) all_nil)))))
  · rename_i h0
    split
    · rename_i h1
      have e : cutFacts T 1 = [.bin .rem (S 60) (.int .u8 (.ofNat 5)) (.int .u8 (.ofNat (T - 1))), .conv .i64 (S 61) (S 62), .bin .rem (S 62) (i64 (size T)) (S 63),
        .num 63 8 (frameSize T 0 - 1), .bin .lss (S 63) (i64 8) (.bool false), .bin .lss (S 63) (i64 (frameSize T 0)) (.bool true)] ++ [.diff 63 4 66] ++ [.num 66 (8 - 4) (frameSize T 0 - 1 - 4)] ++ [] ++ [] := rfl
      rw [e]
      exact all_app (all_app (all_app (all_app (all_cons a1 (all_cons a2 (all_cons a3 (all_cons (f_num v63 (by omega) (by omega)) (all_cons (a5 _ (by simpa using h0)) (all_cons (a6 _ (by simpa using h1)) all_nil))))))
        (all_cons (f_diff v63 (by omega) v66) all_nil)) (all_cons (f_num v66 (by omega) (by omega)) all_nil)) all_nil) all_nil
    · rename_i h1
      have g4 : size T = frameSize T 0 + frameSize T 1 ∧ 16 < frameSize T 1 := by
        rcases g3 with ⟨_, h⟩ | ⟨_, h, h'⟩
        · omega
        · exact ⟨h, h'⟩
      split
      · rename_i h2
        have e : cutFacts T 2 = [.bin .rem (S 60) (.int .u8 (.ofNat 5)) (.int .u8 (.ofNat (T - 1))), .conv .i64 (S 61) (S 62), .bin .rem (S 62) (i64 (size T)) (S 63),
          .num 63 (frameSize T 0) (frameSize T 0 + 7), .bin .lss (S 63) (i64 8) (.bool false), .bin .lss (S 63) (i64 (frameSize T 0)) (.bool false)] ++ [.diff 63 4 66] ++ [.num 66 (frameSize T 0 - 4) (frameSize T 0 + 7 - 4)] ++
          [.diff 63 (frameSize T 0) 64, .num 64 (frameSize T 0 - frameSize T 0) (frameSize T 0 + 7 - frameSize T 0), .bin .lss (S 64) (i64 8) (.bool true)] ++ [] := rfl
        rw [e]
        exact all_app (all_app (all_app (all_app (all_cons a1 (all_cons a2 (all_cons a3 (all_cons (f_num v63 (by omega) (by omega)) (all_cons (a5 _ (by simpa using h0)) (all_cons (a6 _ (by simpa using h1)) all_nil))))))
          (all_cons (f_diff v63 (by omega) v66) all_nil)) (all_cons (f_num v66 (by omega) (by omega)) all_nil))
          (all_cons (f_diff v63 (by omega) v64) (all_cons (f_num v64 (by omega) (by omega)) (all_cons (a7 _ (by simp; omega)) all_nil)))) all_nil
      · rename_i h2
        have e : cutFacts T 3 = [.bin .rem (S 60) (.int .u8 (.ofNat 5)) (.int .u8 (.ofNat (T - 1))), .conv .i64 (S 61) (S 62), .bin .rem (S 62) (i64 (size T)) (S 63),
          .num 63 (frameSize T 0 + 8) (size T - 1), .bin .lss (S 63) (i64 8) (.bool false), .bin .lss (S 63) (i64 (frameSize T 0)) (.bool false)] ++ [.diff 63 4 66] ++ [.num 66 (frameSize T 0 + 8 - 4) (size T - 1 - 4)] ++
          [.diff 63 (frameSize T 0) 64, .num 64 (frameSize T 0 + 8 - frameSize T 0) (size T - 1 - frameSize T 0), .bin .lss (S 64) (i64 8) (.bool false)] ++
          [.bin .lss (S 64) (i64 (frameSize T 1)) (.bool true), .diff 64 4 65, .num 65 (frameSize T 0 + 8 - frameSize T 0 - 4) (size T - 1 - frameSize T 0 - 4)] := rfl
        rw [e]
        exact all_app (all_app (all_app (all_app (all_cons a1 (all_cons a2 (all_cons a3 (all_cons (f_num v63 (by omega) (by omega)) (all_cons (a5 _ (by simpa using h0)) (all_cons (a6 _ (by simpa using h1)) all_nil))))))
          (all_cons (f_diff v63 (by omega) v66) all_nil)) (all_cons (f_num v66 (by omega) (by omega)) all_nil))
          (all_cons (f_diff v63 (by omega) v64) (all_cons (f_num v64 (by omega) (by omega)) (all_cons (a7 _ (by simp; omega)) all_nil))))
          (all_cons (a8 _ (by simp; omega)) (all_cons (f_diff v64 (by omega) v65) (all_cons (f_num v65 (by omega) (by omega)) all_nil)))
end

/-! ### Checksums -/
theorem xor_lt32 {a b : Nat} (ha : a < 4294967296) (hb : b < 4294967296) : Nat.xor a b < 4294967296 := Nat.xor_lt_two_pow (n := 32) ha hb
theorem crcStep_eq (c : Nat) : crcStep c = if c % 2 = 1 then Nat.xor (c / 2) 2197175160 else c / 2 := by
  unfold crcStep
  rw [ifB_eq, nbeq_eq]
  show (if (c % 2 == 1) = true then Nat.xor (c / 2) 2197175160 else c / 2) = _
  by_cases h : c % 2 = 1 <;> simp [h]
theorem crcStep_lt {c : Nat} (h : c < 4294967296) : crcStep c < 4294967296 := by
  rw [crcStep_eq]
  split
  · exact xor_lt32 (by omega) (by decide)
  · omega
theorem crcSteps_succ (n c : Nat) : crcSteps (n + 1) c = crcSteps n (crcStep c) := rfl
theorem crcSteps_lt : ∀ n {c : Nat}, c < 4294967296 → crcSteps n c < 4294967296
  | 0, _, h => h
  | n + 1, _, h => by rw [crcSteps_succ]; exact crcSteps_lt n (crcStep_lt h)
theorem crcNot_lt (c : Nat) : crcNot c < 4294967296 := Nat.lt_of_le_of_lt (Nat.sub_le _ _) (by decide)
theorem crcFold_cons (b : Nat) (l : List Nat) (c : Nat) : crcFold (b :: l) c = crcFold l (crcSteps 8 (Nat.xor c b)) := rfl
theorem crcUpd_lt (c : Nat) (l : List Nat) : crcUpd c l < 4294967296 := crcNot_lt _

section
variable {P : Program} {tabs : List (Nat × ABlk)}
/-- what a function of checksums does -/
def Does (P : Program) (tabs : List (Nat × ABlk)) (f : FuncId) : Prop :=
  ∀ (c : Nat) (l : List Nat) (b o cap : Nat) (w : World), c < 4294967296 → (∀ x ∈ l, x < 256) → l.length ≤ cap → l.length ≤ 1000000 → TabsIn P tabs w → (∀ i (x : Nat), l[i]? = some x → w.cell? ⟨b, o + i, none⟩ = some (nat .u8 x)) →
    Calls P f #[nat .u32 c, .slice (some ⟨b, o, none⟩) l.length cap] w fun e w2 => e = .returned (nat .u32 (crcUpd c l)) ∧ Grown w w2
theorem read_fact {β : Inj} {f : FuncId} (hd : Does P tabs f) {c : Nat} {l : List Nat} (hlt : c < 4294967296) (hl : ∀ x ∈ l, x < 256) (hll : l.length ≤ 1000000) :
    FactTrue P tabs β (.read f [u32 c, .osl 0 (.str l)] (u32 (crcUpd c l))) := by
  have eu : ∀ n, u32 n = .int .u32 (.ofNat n) := fun n => frc_eq _ _
  rw [eu, eu]
  refine ⟨trivial, fun w vs β' hle hw hargs => ?_⟩
  match vs, hargs with
  | [x, y], h =>
    obtain ⟨h1, h2, _⟩ := h
    have h1 : WF β' (.int .u32 (.ofNat c)) ∧ x = conc β' (.int .u32 (.ofNat c)) := h1
    have e1 : x = nat .u32 c := h1.2
    have h2 : WF β' (.str l) ∧ ∃ t b o cap, conc β' (.str l) = .string t ∧ y = .slice (some ⟨b, o, none⟩) t.size cap ∧ t.size ≤ cap ∧ ∀ i (c : UInt8), t.data[i]? = some c → w.cell? ⟨b, o + i, none⟩ = some (.int .u8 c.toNat) := h2
    obtain ⟨_, t, b, o, cap, g1, g2, g3, g4⟩ := h2
    have e2 : t = str l := by
      have g1 : Value.string (str l) = .string t := g1
      cases g1; rfl
    subst e2
    rw [text_size] at g2 g3
    rw [e1, g2]
    refine hd c l b o cap w hlt hl g3 hll hw fun i x hx => ?_
    have hb := hl x (List.mem_of_getElem? hx)
    have := g4 i (UInt8.ofNat x) (by show (l.map UInt8.ofNat).toArray[i]? = _; simp [hx])
    rw [this]
    show some (Value.int .u8 ((UInt8.ofNat x).toNat : Nat)) = some (Value.int .u8 (x : Nat))
    congr 2
    simp
    omega
  | [], h => exact h.elim
  | [_], h => exact h.2.elim
  | _ :: _ :: _ :: _, h => exact h.2.2.elim
/-- bytes, and not too many -/
noncomputable def okL (l : List Nat) : Bool := band (Nat.ble (lenA l 0) 1000000) (List.rec true (fun a _ ih => ifB (Nat.blt a 256) ih false) l)
theorem okL_mem {l : List Nat} (h : okL l = true) : l.length ≤ 1000000 ∧ ∀ x ∈ l, x < 256 := by
  unfold okL at h
  rw [band_eq, Bool.and_eq_true, nble_eq, lenA0, decide_eq_true_eq] at h
  refine ⟨h.1, ?_⟩
  have key : ∀ l : List Nat, (List.rec (motive := fun _ => Bool) true (fun a _ ih => ifB (Nat.blt a 256) ih false) l) = true → ∀ x ∈ l, x < 256 := by
    intro l
    induction l with
    | nil => intro _ x hx; cases hx
    | cons a l ih =>
      intro h x hx
      have h : ifB (Nat.blt a 256) (List.rec (motive := fun _ => Bool) true (fun a _ ih => ifB (Nat.blt a 256) ih false) l) false = true := h
      rw [ifB_eq, nblt_eq] at h
      split at h
      · rename_i ha
        rcases List.mem_cons.1 hx with rfl | hx
        · simpa using ha
        · exact ih h x hx
      · cases h
  exact key l h.2
theorem crcF_true {β : Inj} {f : FuncId} (hd : Does P tabs f) {l : List Nat} (h : okL l = true) : ∀ g ∈ crcF f l, FactTrue P tabs β g := by
  obtain ⟨h1, h2⟩ := okL_mem h
  have h4 : ∀ x ∈ four l.length, x < 256 := by
    intro x hx
    simp only [four, List.mem_cons, List.mem_nil_iff, or_false] at hx
    rcases hx with rfl | rfl | rfl | rfl <;> exact Nat.mod_lt _ (by decide)
  exact all_cons (read_fact hd (by decide) h4 (by simp [four])) (all_cons (read_fact hd (crcUpd_lt _ _) h2 h1) all_nil)
/-- all that is summed at T tenants -/
noncomputable def okT (T : Nat) : Bool := ((List.range T).all fun k => okL (foundL k) && okL (payL k)) && (List.range (parts T)).all fun i => okL (partL T i)
theorem crcs_true {β : Inj} (h1 : Does P tabs fUpd) (h2 : Does P tabs fRUpd) {T : Nat} (h : okT T = true) : ∀ g ∈ crcs T, FactTrue P tabs β g := by
  unfold okT at h
  rw [Bool.and_eq_true, List.all_eq_true, List.all_eq_true] at h
  obtain ⟨ha, hb⟩ := h
  intro g hg
  unfold crcs cat at hg
  rcases List.mem_append.1 hg with hg | hg
  · obtain ⟨k, hk, hg⟩ := List.mem_flatMap.1 hg
    have hk := ha k hk
    rw [Bool.and_eq_true] at hk
    rcases List.mem_append.1 hg with hg | hg
    · exact crcF_true h1 hk.1 g hg
    · exact crcF_true h1 hk.2 g hg
  · obtain ⟨i, hi, hg⟩ := List.mem_flatMap.1 hg
    rcases List.mem_append.1 hg with hg | hg
    · exact crcF_true h1 (hb i hi) g hg
    · exact crcF_true h2 (hb i hi) g hg
end
/-! ### The checksums, by number -/
theorem okC_eq {f : FuncId} {l : List Nat} {n N s c : Nat} (h : okC l n N s c = true) : crcH f n N s c = crcF f l := by
  unfold okC at h
  rw [band_eq, band_eq, band_eq, Bool.and_eq_true, Bool.and_eq_true, Bool.and_eq_true, nbeq_eq, nbeq_eq, nbeq_eq, beq_iff_eq, beq_iff_eq, beq_iff_eq, lenA0, lbeq_eq, beq_iff_eq] at h
  obtain ⟨rfl, h2, rfl, rfl⟩ := h
  unfold crcH
  rw [frc_eq, frc_eq]
  unfold crcG crcF
  rw [← h2]
theorem cat_congr {α : Type} {f g : Nat → List α} {n : Nat} (h : ∀ k, k < n → f k = g k) : cat f n = cat g n := by
  unfold cat
  have key : ∀ l : List Nat, (∀ k ∈ l, f k = g k) → l.flatMap f = l.flatMap g := by
    intro l
    induction l with
    | nil => intro _; rfl
    | cons a l ih =>
      intro h
      rw [List.flatMap_cons, List.flatMap_cons, h a List.mem_cons_self, ih fun k hk => h k (List.mem_cons_of_mem _ hk)]
  exact key _ fun k hk => h k (List.mem_range.1 hk)
theorem crcsL_eq {T : Nat} (hA : ∀ k, k < T → okA k = true) (hP : ∀ i, i < parts T → okP T i = true) : crcsL T = crcs T := by
  have e1 : cat (fun k => crcH fUpd 5 (foundN k) foundS (foundC k) ++ crcH fUpd 3006 (payN k) payS (payC k)) T = cat (fun k => crcF fUpd (foundL k) ++ crcF fUpd (payL k)) T := cat_congr fun k hk => by
    have h := hA k hk
    unfold okA at h
    rw [band_eq, Bool.and_eq_true] at h
    show crcH fUpd 5 (foundN k) foundS (foundC k) ++ crcH fUpd 3006 (payN k) payS (payC k) = crcF fUpd (foundL k) ++ crcF fUpd (payL k)
    rw [okC_eq h.1, okC_eq h.2]
  have e2 : cat (fun i => crcH fUpd (partLen T i) (partN T i) (partS T i) (partC T i) ++ crcH fRUpd (partLen T i) (partN T i) (partS T i) (partC T i)) (parts T) = cat (fun i => crcF fUpd (partL T i) ++ crcF fRUpd (partL T i)) (parts T) := cat_congr fun i hi => by
    have h := hP i hi
    unfold okP at h
    show crcH fUpd (partLen T i) (partN T i) (partS T i) (partC T i) ++ crcH fRUpd (partLen T i) (partN T i) (partS T i) (partC T i) = crcF fUpd (partL T i) ++ crcF fRUpd (partL T i)
    rw [okC_eq h, okC_eq h]
  unfold crcsL crcs
  rw [e1, e2]
end Go.AEv
