/- The forms of changes: what is known of a field, and the facts that follow. Conditions: none. -/
import Derived.Test.YteokcfkggfapkaaGreatDoorEvSe
import Derived.Lib.Repeat
namespace Go.AEv
/-- what is known of a field: it is zero (empty) · in its range · below · above · not zero · nothing -/
inductive St where
  | z | ok | neg | big | nz | any
abbrev Leaf := List St
/-- a field, what goes on, what ends -/
abbrev Test := Nat × St × List St

def i64 (n : Nat) : AVal := .int .i64 (.ofNat n)
def tt : AVal := .bool true
def ff : AVal := .bool false
/-- numbers: 61 to 66 as they come, 67 to 72 as ints -/
def numArg (i : Nat) (s : St) : AVal := match s with | .z => .int .i32 (.ofNat 0) | _ => .sym (61 + i)
def numMore (i : Nat) (s : St) : List Fact :=
  match s with
  | .ok => [.bin .lss (.sym (67 + i)) (i64 0) ff, .bin .gtr (.sym (67 + i)) (i64 1000000) ff]
  | .neg => [.bin .lss (.sym (67 + i)) (i64 0) tt]
  | .big => [.bin .lss (.sym (67 + i)) (i64 0) ff, .bin .gtr (.sym (67 + i)) (i64 1000000) tt]
  | .nz => [.eq 1 (.sym (67 + i)) (i64 0) false]
  | _ => []
def numFacts (i : Nat) (s : St) : List Fact := [.conv .i64 (.sym (61 + i)) (.sym (67 + i)), .eq 1 (.sym (67 + i)) (.sym (67 + i)) true] ++ numMore i s
/-- strings: b as it comes, b + 1 its length, b + 2 the length of what is taken, b + 3 that, b + 4 its length -/
def strArg (b : Nat) (s : St) : AVal := match s with | .z => .str [] | _ => .sym b
def strMore (a l lim : Nat) (s : St) : List Fact :=
  match s with
  | .ok => [.bin .gtr (.sym l) (i64 lim) ff]
  | .big => [.bin .gtr (.sym l) (i64 lim) tt]
  | .nz => [.eq 2 (.sym a) (.str []) false]
  | _ => []
def strFacts (b most lim : Nat) (s : St) : List Fact :=
  [.len (.sym b) (.sym (b + 1)), .min (.sym (b + 1)) (i64 most) (.sym (b + 2)), .sub (.sym b) (i64 0) (.sym (b + 2)) (.sym (b + 3)), .len (.sym (b + 3)) (.sym (b + 4)), .eq 2 (.sym (b + 3)) (.sym (b + 3)) true] ++ strMore (b + 3) (b + 4) lim s
/-- the text: 78 its number, 79 as an int, 80 the text, 81 its length -/
def txtArg (s : St) : AVal := match s with | .z => .int .u16 (.ofNat 0) | _ => .sym 78
def txtFacts (rep : FuncId) (s : St) : List Fact :=
  [.conv .i64 (.sym 78) (.sym 79), .call rep [.str [35], .sym 79] (.sym 80), .len (.sym 80) (.sym 81), .eq 2 (.sym 80) (.sym 80) true] ++ strMore 80 81 8000 s
def st (l : Leaf) (i : Nat) : St := l.getD i .any
def leafFacts (rep : FuncId) (l : Leaf) : List Fact :=
  numFacts 0 (st l 0) ++ numFacts 1 (st l 1) ++ numFacts 2 (st l 2) ++ numFacts 3 (st l 3) ++ numFacts 4 (st l 4) ++ numFacts 5 (st l 5) ++ strFacts 73 20 12 (st l 6) ++ txtFacts rep (st l 7) ++ strFacts 82 120 104 (st l 8)
def leafArg (l : Leaf) (deep : Bool) : AVal :=
  .agg [.sym 60, numArg 0 (st l 0), numArg 1 (st l 1), numArg 2 (st l 2), numArg 3 (st l 3), numArg 4 (st l 4), numArg 5 (st l 5), strArg 73 (st l 6), txtArg (st l 7), strArg 82 (st l 8), .bool deep]
def leafList : List Test → Leaf → List Leaf
  | [], acc => [acc]
  | t :: ts, acc => (t.2.2.map fun b => acc.set t.1 b) ++ leafList ts (acc.set t.1 t.2.1)
def leaf0 : Leaf := [.any, .any, .any, .any, .any, .any, .any, .any, .any]
/-- the fields that a kind uses: numbers; 6 the name, 7 the text, 8 the permission -/
def uses (k : Nat) : List Nat :=
  match k with
  | 1 => [6] | 2 => [6] | 3 => [6] | 4 => [2, 3] | 5 => [2, 3] | 6 => [2, 8] | 7 => [2, 8] | 8 => [1, 2, 5] | 9 => [1, 2] | 10 => [7] | 11 => [7] | 12 => [0, 1, 2, 5] | 13 => [0, 1, 2] | 14 => [1] | 15 => [4] | 16 => [2, 4] | 17 => [2, 4] | 18 => [5] | _ => []
def formTests (k : Nat) : List Test :=
  ([0, 1, 2, 3, 4, 5].filter fun i => !(uses k).contains i).map (fun i => (i, St.z, [St.nz])) ++
  (if (uses k).contains 6 then [] else [(6, .z, [.nz])]) ++ (if (uses k).contains 7 then [] else [(7, .z, [.nz])]) ++
  (if (uses k).contains 6 then [(6, .z, [.nz])] else []) ++ (if (uses k).contains 8 then [] else [(8, .z, [.nz])])
def sizeTests (k : Nat) (only : Bool) : List Test :=
  ([0, 1, 2, 3, 4, 5].filter fun i => (uses k).contains i).map (fun i => (i, St.ok, [St.neg, St.big])) ++
  (if only && ((uses k).contains 6 || (uses k).contains 8) then [(6, .ok, [.big])] else []) ++
  (if (uses k).contains 8 then [(8, .ok, [.big])] else []) ++ (if (uses k).contains 7 then [(7, .ok, [.big])] else [])
def tests (k : Nat) (only : Bool) : List Test :=
  if k = 0 ∨ k = 19 ∨ k = 20 then [] else (if only then [] else formTests k) ++ sizeTests k only
/-! ### The inputs -/
structure Inp where
  kind : Int
  num : Nat → Int
  name : ByteArray
  t : Nat
  path : ByteArray
def cut (s : ByteArray) (m : Nat) : ByteArray := s.extract 0 (min s.size m)
def repStr (t : Nat) : ByteArray := ⟨(Lib.repeatL [35] t).toArray⟩
theorem repStr_size (t : Nat) : (repStr t).size = t := by
  show (Lib.repeatL [35] t).toArray.size = t
  simp [Lib.repeatL_length]
theorem cut_size (s : ByteArray) (m : Nat) : (cut s m).size = min s.size m := by
  simp [cut, ByteArray.size_extract]

/-- what a symbol stands for -/
def symOf (x : Inp) (id : Nat) : Value :=
  if id = 60 then .int .u8 x.kind
  else if id < 67 then .int .i32 (x.num (id - 61))
  else if id < 73 then .int .i64 (x.num (id - 67))
  else if id = 73 then .string x.name
  else if id = 74 then .int .i64 (x.name.size : Nat)
  else if id = 75 then .int .i64 (min x.name.size 20 : Nat)
  else if id = 76 then .string (cut x.name 20)
  else if id = 77 then .int .i64 ((cut x.name 20).size : Nat)
  else if id = 78 then .int .u16 (x.t : Nat)
  else if id = 79 then .int .i64 (x.t : Nat)
  else if id = 80 then .string (repStr x.t)
  else if id = 81 then .int .i64 ((repStr x.t).size : Nat)
  else if id = 82 then .string x.path
  else if id = 83 then .int .i64 (x.path.size : Nat)
  else if id = 84 then .int .i64 (min x.path.size 120 : Nat)
  else if id = 85 then .string (cut x.path 120)
  else .int .i64 ((cut x.path 120).size : Nat)

def isKept (v : Value) : Bool := match v with | .int _ _ => true | .string _ => true | _ => false
theorem symOf_plain (x : Inp) (id : Nat) : ∃ z, symVal z = symOf x id := by
  have h : isKept (symOf x id) = true := by
    have key : ∀ (c : Prop) [Decidable c] (a b : Value), isKept a = true → isKept b = true → isKept (if c then a else b) = true := by
      intro c _ a b ha hb
      split
      · exact ha
      · exact hb
    unfold symOf
    repeat (refine key _ _ _ rfl ?_)
    rfl
  revert h
  cases symOf x id <;> intro h <;> first | exact symVal_int _ _ | exact symVal_str _ | (cases h; done)
theorem wrap_i64 {n : Int} (h1 : -9223372036854775808 ≤ n) (h2 : n ≤ 9223372036854775807) : IntKind.i64.wrap n = n := by
  unfold IntKind.wrap
  simp only [IntKind.signed, IntKind.bits, Bool.true_and]
  split
  · rename_i h
    have h := of_decide_eq_true h
    omega
  · rename_i h
    have h : n % 18446744073709551616 < 9223372036854775808 := by simpa using h
    show n % 18446744073709551616 = n
    omega
noncomputable def codeOf (v : Value) : Nat × Nat × Nat := Classical.epsilon fun z => symVal z = v
noncomputable def sigma (x : Inp) : Inj := fun id => if 60 ≤ id ∧ id < 87 then some (codeOf (symOf x id)) else none
theorem sigma_lt (x : Inp) : ∀ id z, sigma x id = some z → id < 87 := by
  intro id z h
  unfold sigma at h
  split at h
  · rename_i h1; exact h1.2
  · cases h
theorem sigma_some (x : Inp) {id : Nat} (h1 : 60 ≤ id) (h2 : id < 87) : baseMap (sigma x) id = some (codeOf (symOf x id)) := by
  unfold baseMap sigma
  rw [if_neg (by omega), if_pos ⟨h1, h2⟩]
theorem sym_wf (x : Inp) {id : Nat} (h1 : 60 ≤ id) (h2 : id < 87) : WF (baseMap (sigma x)) (.sym id) := by
  simp [WF, sigma_some x h1 h2]
theorem sym_val (x : Inp) {id : Nat} (h1 : 60 ≤ id) (h2 : id < 87) : conc (baseMap (sigma x)) (.sym id) = symOf x id := by
  simp only [conc, sigma_some x h1 h2, Option.getD_some]
  exact Classical.epsilon_spec (symOf_plain x id)

/-! ### What a leaf says of an input -/
def stNum (n : Int) : St → Prop
  | .z => n = 0 | .ok => 0 ≤ n ∧ n ≤ 1000000 | .neg => n < 0 | .big => 1000000 < n | .nz => n ≠ 0 | .any => True
def stStr (s c lim : Nat) : St → Prop
  | .z => s = 0 | .ok => c ≤ lim | .big => lim < c | .nz => c ≠ 0 | .neg => False | .any => True
def fieldHolds (x : Inp) (i : Nat) (s : St) : Prop :=
  if i < 6 then stNum (x.num i) s else if i = 6 then stStr x.name.size (min x.name.size 20) 12 s else if i = 7 then stStr x.t x.t 8000 s else stStr x.path.size (min x.path.size 120) 104 s
def Holds (x : Inp) (l : Leaf) : Prop := ∀ i, fieldHolds x i (st l i)

theorem field_any (x : Inp) (i : Nat) : fieldHolds x i .any := by
  unfold fieldHolds
  repeat' split
  all_goals trivial
theorem holds0 (x : Inp) : Holds x leaf0 := by
  intro i
  have : st leaf0 i = .any := by
    unfold st leaf0
    match i with
    | 0 | 1 | 2 | 3 | 4 | 5 | 6 | 7 | 8 => rfl
    | n + 9 => rfl
  rw [this]
  exact field_any x i
theorem Holds.set {x : Inp} {l : Leaf} (h : Holds x l) {i : Nat} {s : St} (hs : fieldHolds x i s) : Holds x (l.set i s) := by
  intro j
  unfold st
  rw [List.getD_eq_getElem?_getD, List.getElem?_set]
  by_cases hij : i = j
  · subst hij
    rw [if_pos rfl]
    by_cases hl : i < l.length
    · rw [if_pos hl]; exact hs
    · rw [if_neg hl]; exact field_any x i
  · rw [if_neg hij]
    have := h j
    unfold st at this
    rw [List.getD_eq_getElem?_getD] at this
    exact this
theorem cover {x : Inp} : ∀ (ts : List Test) (acc : Leaf), Holds x acc → (∀ t ∈ ts, fieldHolds x t.1 t.2.1 ∨ ∃ b ∈ t.2.2, fieldHolds x t.1 b) → ∃ l ∈ leafList ts acc, Holds x l := by
  intro ts
  induction ts with
  | nil => intro acc h _; exact ⟨acc, List.mem_singleton.2 rfl, h⟩
  | cons t ts ih =>
    intro acc h ht
    simp only [leafList, List.mem_append, List.mem_map]
    rcases ht t List.mem_cons_self with hg | ⟨b, hb, hh⟩
    · obtain ⟨l, hl, hx⟩ := ih (acc.set t.1 t.2.1) (h.set hg) fun u hu => ht u (List.mem_cons_of_mem _ hu)
      exact ⟨l, .inr hl, hx⟩
    · exact ⟨_, .inl ⟨b, hb, rfl⟩, h.set hh⟩

/-- every test is one of these -/
def goodTest (t : Test) : Prop := (t.2.1 = .z ∧ t.2.2 = [.nz]) ∨ (t.1 < 6 ∧ t.2.1 = .ok ∧ t.2.2 = [.neg, .big]) ∨ (6 ≤ t.1 ∧ t.2.1 = .ok ∧ t.2.2 = [.big])
theorem goodTest_ok {x : Inp} {t : Test} (h : goodTest t) : fieldHolds x t.1 t.2.1 ∨ ∃ b ∈ t.2.2, fieldHolds x t.1 b := by
  obtain ⟨i, g, bs⟩ := t
  rcases h with ⟨h1, h2⟩ | ⟨h0, h1, h2⟩ | ⟨h0, h1, h2⟩
  · simp only at h1 h2; subst h1; subst h2
    have key : fieldHolds x i .z ∨ fieldHolds x i .nz := by
      unfold fieldHolds
      repeat' split
      · show x.num i = 0 ∨ x.num i ≠ 0; omega
      · show x.name.size = 0 ∨ min x.name.size 20 ≠ 0; omega
      · show x.t = 0 ∨ x.t ≠ 0; omega
      · show x.path.size = 0 ∨ min x.path.size 120 ≠ 0; omega
    exact key.imp id fun h => ⟨.nz, by simp, h⟩
  · simp only at h0 h1 h2; subst h1; subst h2
    have key : fieldHolds x i .ok ∨ fieldHolds x i .neg ∨ fieldHolds x i .big := by
      unfold fieldHolds
      rw [if_pos h0, if_pos h0, if_pos h0]
      show (0 ≤ x.num i ∧ x.num i ≤ 1000000) ∨ x.num i < 0 ∨ 1000000 < x.num i
      omega
    rcases key with h | h | h
    · exact .inl h
    · exact .inr ⟨.neg, by simp, h⟩
    · exact .inr ⟨.big, by simp, h⟩
  · simp only at h0 h1 h2; subst h1; subst h2
    have key : fieldHolds x i .ok ∨ fieldHolds x i .big := by
      unfold fieldHolds
      repeat' split
      · omega
      · show min x.name.size 20 ≤ 12 ∨ 12 < min x.name.size 20; omega
      · show x.t ≤ 8000 ∨ 8000 < x.t; omega
      · show min x.path.size 120 ≤ 104 ∨ 104 < min x.path.size 120; omega
    exact key.imp id fun h => ⟨.big, by simp, h⟩
theorem tests_good (k : Nat) (only : Bool) : ∀ t ∈ tests k only, goodTest t := by
  have form : ∀ t ∈ formTests k, goodTest t := by
    intro t ht
    refine .inl ?_
    unfold formTests at ht
    simp only [List.mem_append, List.mem_map] at ht
    rcases ht with (((⟨i, _, rfl⟩ | ht) | ht) | ht) | ht
    · exact ⟨rfl, rfl⟩
    all_goals (split at ht <;> first | (rw [List.mem_singleton.1 ht]; exact ⟨rfl, rfl⟩) | (cases ht))
  have size : ∀ t ∈ sizeTests k only, goodTest t := by
    intro t ht
    unfold sizeTests at ht
    simp only [List.mem_append, List.mem_map, List.mem_filter] at ht
    rcases ht with ((⟨i, ⟨hi, _⟩, rfl⟩ | ht) | ht) | ht
    · refine .inr (.inl ⟨?_, rfl, rfl⟩)
      simp only [List.mem_cons, List.mem_nil_iff, or_false] at hi
      show i < 6
      omega
    all_goals
      refine .inr (.inr ?_)
      split at ht <;> first | (rw [List.mem_singleton.1 ht]; exact ⟨by decide, rfl, rfl⟩) | (cases ht)
  intro t ht
  unfold tests at ht
  split at ht
  · cases ht
  · rcases List.mem_append.1 ht with ht | ht
    · split at ht
      · cases ht
      · exact form t ht
    · exact size t ht

/-! ### The facts hold -/
section
variable {P : Program} {tabs : List (Nat × ABlk)} {x : Inp}
theorem bin_int {op : BinOp} {k : IntKind} {a b r : AVal} {m n : Int} (ha : WF (baseMap (sigma x)) a) (hb : WF (baseMap (sigma x)) b) (hr : WF (baseMap (sigma x)) r)
    (e1 : conc (baseMap (sigma x)) a = .int k m) (e2 : conc (baseMap (sigma x)) b = .int k n) {v : AVal} (h : intOp op k m k n = some v) (hv : conc (baseMap (sigma x)) v = conc (baseMap (sigma x)) r) : FactTrue P tabs (baseMap (sigma x)) (.bin op a b r) := by
  refine ⟨ha, hb, hr, by rw [e1]; rfl, fun t w => ?_⟩
  rw [e1, e2, ← hv]
  exact (run_intOp h t (baseMap (sigma x)) w).1

theorem num_val (i : Nat) (hi : i < 6) : conc (baseMap (sigma x)) (.sym (61 + i)) = .int .i32 (x.num i) ∧ conc (baseMap (sigma x)) (.sym (67 + i)) = .int .i64 (x.num i) := by
  rw [sym_val x (by omega) (by omega), sym_val x (by omega) (by omega)]
  constructor
  · unfold symOf
    rw [if_neg (by omega), if_pos (by omega)]
    congr 2; omega
  · unfold symOf
    rw [if_neg (by omega), if_neg (by omega), if_pos (by omega)]
    congr 2; omega

theorem cmp_facts {a : AVal} {n : Int} (ha : WF (baseMap (sigma x)) a) (e : conc (baseMap (sigma x)) a = .int .i64 n) (c : Nat) :
    (∀ b : Bool, decide (n < c) = b → FactTrue P tabs (baseMap (sigma x)) (.bin .lss a (i64 c) (.bool b))) ∧ (∀ b : Bool, decide ((c : Int) < n) = b → FactTrue P tabs (baseMap (sigma x)) (.bin .gtr a (i64 c) (.bool b))) := by
  constructor
  · intro b hb
    refine bin_int (k := .i64) (m := n) (n := c) ha trivial trivial e rfl (v := mkBool (ilt n c)) rfl ?_
    rw [mkBool_eq, ilt_eq, hb]
  · intro b hb
    refine bin_int (k := .i64) (m := n) (n := c) ha trivial trivial e rfl (v := mkBool (ilt c n)) rfl ?_
    rw [mkBool_eq, ilt_eq, hb]

theorem num_true (hn : ∀ i, i < 6 → -2147483648 ≤ x.num i ∧ x.num i ≤ 2147483647) (i : Nat) (hi : i < 6) (s : St) (hs : stNum (x.num i) s) : ∀ f ∈ numFacts i s, FactTrue P tabs (baseMap (sigma x)) f := by
  obtain ⟨e1, e2⟩ := num_val (x := x) i hi
  have w1 : WF (baseMap (sigma x)) (.sym (61 + i)) := sym_wf x (by omega) (by omega)
  have w2 : WF (baseMap (sigma x)) (.sym (67 + i)) := sym_wf x (by omega) (by omega)
  have hb := hn i hi
  obtain ⟨l0, _⟩ := cmp_facts (P := P) (tabs := tabs) w2 e2 0
  obtain ⟨_, g0⟩ := cmp_facts (P := P) (tabs := tabs) w2 e2 1000000
  intro f hf
  unfold numFacts at hf
  simp only [List.mem_append, List.mem_cons, List.mem_nil_iff, or_false] at hf
  rcases hf with (rfl | rfl) | hf
  · refine ⟨w1, w2, .i32, x.num i, e1, ?_⟩
    rw [e2]
    rw [wrap_i64 (by omega) (by omega)]
  · exact ⟨w2, w2, .inl ⟨rfl, .i64, _, _, e2, e2, by simp⟩⟩
  · cases s with
    | z => cases hf
    | any => cases hf
    | ok =>
      obtain ⟨h1, h2⟩ := hs
      simp only [numMore, List.mem_cons, List.mem_nil_iff, or_false] at hf
      rcases hf with rfl | rfl
      · exact l0 false (by simp; omega)
      · exact g0 false (by simp; omega)
    | neg =>
      have h1 : x.num i < 0 := hs
      rw [List.mem_singleton.1 hf]
      exact l0 true (by simp; omega)
    | big =>
      have h1 : 1000000 < x.num i := hs
      simp only [numMore, List.mem_cons, List.mem_nil_iff, or_false] at hf
      rcases hf with rfl | rfl
      · exact l0 false (by simp; omega)
      · exact g0 true (by simp; omega)
    | nz =>
      have h1 : x.num i ≠ 0 := hs
      rw [List.mem_singleton.1 hf]
      exact ⟨w2, trivial, .inl ⟨rfl, .i64, _, 0, e2, rfl, by simp [h1]⟩⟩

theorem strMore_true {a l lim : Nat} {c : ByteArray} (wa : WF (baseMap (sigma x)) (.sym a)) (wl : WF (baseMap (sigma x)) (.sym l)) (ea : conc (baseMap (sigma x)) (.sym a) = .string c) (el : conc (baseMap (sigma x)) (.sym l) = .int .i64 (c.size : Nat))
    (s : St) {q : Nat} (hs : stStr q c.size lim s) : ∀ f ∈ strMore a l lim s, FactTrue P tabs (baseMap (sigma x)) f := by
  obtain ⟨_, g0⟩ := cmp_facts (P := P) (tabs := tabs) wl el lim
  intro f hf
  cases s with
  | z => cases hf
  | any => cases hf
  | neg => cases hf
  | ok =>
    have h1 : c.size ≤ lim := hs
    rw [List.mem_singleton.1 hf]
    exact g0 false (by simp; omega)
  | big =>
    have h1 : lim < c.size := hs
    rw [List.mem_singleton.1 hf]
    exact g0 true (by simp; omega)
  | nz =>
    have h1 : c.size ≠ 0 := hs
    rw [List.mem_singleton.1 hf]
    refine ⟨wa, by simp [WF], .inr ⟨rfl, c, str [], ea, rfl, ?_⟩⟩
    symm
    rw [decide_eq_false_iff_not]
    rintro rfl
    exact h1 (by simp [str_size])

theorem str_true {b most lim : Nat} {c : ByteArray} (hb : 60 ≤ b) (hb' : b + 4 < 87) (e0 : symOf x b = .string c) (e1 : symOf x (b + 1) = .int .i64 (c.size : Nat)) (e2 : symOf x (b + 2) = .int .i64 (min c.size most : Nat)) (e3 : symOf x (b + 3) = .string (cut c most)) (e4 : symOf x (b + 4) = .int .i64 ((cut c most).size : Nat))
    (s : St) {q : Nat} (hs : stStr q (min c.size most) lim s) : ∀ f ∈ strFacts b most lim s, FactTrue P tabs (baseMap (sigma x)) f := by
  have w0 := sym_wf x hb (by omega)
  have w1 := sym_wf x (id := b + 1) (by omega) (by omega)
  have w2 := sym_wf x (id := b + 2) (by omega) (by omega)
  have w3 := sym_wf x (id := b + 3) (by omega) (by omega)
  have w4 := sym_wf x (id := b + 4) (by omega) (by omega)
  have c0 := (sym_val x hb (by omega)).trans e0
  have c1 := (sym_val x (id := b + 1) (by omega) (by omega)).trans e1
  have c2 := (sym_val x (id := b + 2) (by omega) (by omega)).trans e2
  have c3 := (sym_val x (id := b + 3) (by omega) (by omega)).trans e3
  have c4 := (sym_val x (id := b + 4) (by omega) (by omega)).trans e4
  intro f hf
  unfold strFacts at hf
  simp only [List.mem_append, List.mem_cons, List.mem_nil_iff, or_false] at hf
  rcases hf with (rfl | rfl | rfl | rfl | rfl) | hf
  · exact ⟨w0, w1, c, c0, c1⟩
  · refine ⟨w1, trivial, w2, .i64, _, (most : Nat), c1, rfl, ?_⟩
    rw [c2]
    congr 1
    split <;> omega
  · exact ⟨w0, trivial, w2, w3, c, .i64, 0, .i64, min c.size most, c0, rfl, c2, Nat.zero_le _, Nat.min_le_left _ _, c3⟩
  · exact ⟨w3, w4, _, c3, c4⟩
  · exact ⟨w3, w3, .inr ⟨rfl, _, _, c3, c3, by simp⟩⟩
  · exact strMore_true w3 w4 c3 c4 s (q := q) (by rw [cut_size]; exact hs) f hf

theorem txt_true {rep : FuncId} (ht : x.t ≤ 65535) (hrep : ∀ w, TabsIn P tabs w → Calls P rep #[.string (str [35]), .int .i64 (x.t : Nat)] w fun e w2 => e = .returned (.string (repStr x.t)) ∧ Grown w w2)
    (s : St) (hs : stStr x.t x.t 8000 s) : ∀ f ∈ txtFacts rep s, FactTrue P tabs (baseMap (sigma x)) f := by
  have w0 := sym_wf x (id := 78) (by decide) (by decide)
  have w1 := sym_wf x (id := 79) (by decide) (by decide)
  have w2 := sym_wf x (id := 80) (by decide) (by decide)
  have w3 := sym_wf x (id := 81) (by decide) (by decide)
  have c0 : conc (baseMap (sigma x)) (.sym 78) = .int .u16 (x.t : Nat) := sym_val x (by decide) (by decide)
  have c1 : conc (baseMap (sigma x)) (.sym 79) = .int .i64 (x.t : Nat) := sym_val x (by decide) (by decide)
  have c2 : conc (baseMap (sigma x)) (.sym 80) = .string (repStr x.t) := sym_val x (by decide) (by decide)
  have c3 : conc (baseMap (sigma x)) (.sym 81) = .int .i64 ((repStr x.t).size : Nat) := sym_val x (by decide) (by decide)
  intro f hf
  unfold txtFacts at hf
  simp only [List.mem_append, List.mem_cons, List.mem_nil_iff, or_false] at hf
  rcases hf with (rfl | rfl | rfl | rfl) | hf
  · refine ⟨w0, w1, .u16, (x.t : Nat), c0, ?_⟩
    rw [c1]
    rw [wrap_i64 (by omega) (by omega)]
  · refine ⟨⟨by simp [WF], w1, trivial⟩, w2, fun w hw => ?_⟩
    have e : (concs (baseMap (sigma x)) [.str [35], .sym 79]).toArray = #[.string (str [35]), .int .i64 (x.t : Nat)] := by
      rw [concs, concs, concs, c1, conc]
    rw [e, c2]
    exact hrep w hw
  · exact ⟨w2, w3, _, c2, c3⟩
  · exact ⟨w2, w2, .inr ⟨rfl, _, _, c2, c2, by simp⟩⟩
  · exact strMore_true w2 w3 c2 c3 s (q := x.t) (by rw [repStr_size]; exact hs) f hf

theorem leaf_true {rep : FuncId} {l : Leaf} (hl : Holds x l) (hn : ∀ i, i < 6 → -2147483648 ≤ x.num i ∧ x.num i ≤ 2147483647) (ht : x.t ≤ 65535)
    (hrep : ∀ w, TabsIn P tabs w → Calls P rep #[.string (str [35]), .int .i64 (x.t : Nat)] w fun e w2 => e = .returned (.string (repStr x.t)) ∧ Grown w w2) :
    ∀ f ∈ leafFacts rep l, FactTrue P tabs (baseMap (sigma x)) f := by
  have num : ∀ i, i < 6 → ∀ f ∈ numFacts i (st l i), FactTrue P tabs (baseMap (sigma x)) f := fun i hi => num_true hn i hi _ (by
    have := hl i
    unfold fieldHolds at this
    rwa [if_pos hi] at this)
  intro f hf
  unfold leafFacts at hf
  simp only [List.mem_append] at hf
  rcases hf with (((((((hf | hf) | hf) | hf) | hf) | hf) | hf) | hf) | hf
  · exact num 0 (by decide) f hf
  · exact num 1 (by decide) f hf
  · exact num 2 (by decide) f hf
  · exact num 3 (by decide) f hf
  · exact num 4 (by decide) f hf
  · exact num 5 (by decide) f hf
  · exact str_true (b := 73) (c := x.name) (q := x.name.size) (by decide) (by decide) rfl rfl rfl rfl rfl _ (hl 6) f hf
  · exact txt_true ht hrep _ (hl 7) f hf
  · exact str_true (b := 82) (c := x.path) (q := x.path.size) (by decide) (by decide) rfl rfl rfl rfl rfl _ (hl 8) f hf

theorem kind_true {k : Nat} (hm : x.kind.tmod 21 = k) : FactTrue P tabs (baseMap (sigma x)) (.bin .rem (.sym 60) (.int .u8 (.ofNat 21)) (.int .u8 (.ofNat k))) := by
  have w0 := sym_wf x (id := 60) (by decide) (by decide)
  have c0 : conc (baseMap (sigma x)) (.sym 60) = .int .u8 x.kind := sym_val x (by decide) (by decide)
  refine bin_int (k := .u8) (m := x.kind) (n := 21) w0 trivial trivial c0 rfl (v := mkInt .u8 (itmod x.kind 21)) rfl ?_
  rw [mkInt_eq, itmod_eq, hm]
  rfl

theorem leaf_arg {l : Leaf} (hl : Holds x l) (deep : Bool) : WF (baseMap (sigma x)) (leafArg l deep) ∧ conc (baseMap (sigma x)) (leafArg l deep) =
    .agg #[.int .u8 x.kind, .int .i32 (x.num 0), .int .i32 (x.num 1), .int .i32 (x.num 2), .int .i32 (x.num 3), .int .i32 (x.num 4), .int .i32 (x.num 5), .string x.name, .int .u16 (x.t : Nat), .string x.path, .bool deep] := by
  have num : ∀ i, i < 6 → WF (baseMap (sigma x)) (numArg i (st l i)) ∧ conc (baseMap (sigma x)) (numArg i (st l i)) = .int .i32 (x.num i) := by
    intro i hi
    have h := hl i
    unfold fieldHolds at h
    rw [if_pos hi] at h
    have hs : WF (baseMap (sigma x)) (.sym (61 + i)) ∧ conc (baseMap (sigma x)) (.sym (61 + i)) = .int .i32 (x.num i) := ⟨sym_wf x (by omega) (by omega), (num_val i hi).1⟩
    cases hst : st l i with
    | z =>
      rw [hst] at h
      have h : x.num i = 0 := h
      exact ⟨trivial, by rw [h]; rfl⟩
    | _ => exact hs
  have empty : ∀ s : ByteArray, s.size = 0 → (Value.string (str [])) = .string s := by
    intro s hs
    congr 1
    obtain ⟨⟨d⟩⟩ := s
    have : d.length = 0 := hs
    rw [List.length_eq_zero_iff] at this
    subst this
    rfl
  have hname : WF (baseMap (sigma x)) (strArg 73 (st l 6)) ∧ conc (baseMap (sigma x)) (strArg 73 (st l 6)) = .string x.name := by
    have h : stStr x.name.size (min x.name.size 20) 12 (st l 6) := hl 6
    cases hst : st l 6 with
    | z => rw [hst] at h; exact ⟨by simp [strArg, WF], empty _ h⟩
    | _ => exact ⟨sym_wf x (by decide) (by decide), sym_val x (by decide) (by decide)⟩
  have htxt : WF (baseMap (sigma x)) (txtArg (st l 7)) ∧ conc (baseMap (sigma x)) (txtArg (st l 7)) = .int .u16 (x.t : Nat) := by
    have h : stStr x.t x.t 8000 (st l 7) := hl 7
    cases hst : st l 7 with
    | z => rw [hst] at h; have h : x.t = 0 := h; exact ⟨trivial, by rw [h]; rfl⟩
    | _ => exact ⟨sym_wf x (by decide) (by decide), sym_val x (by decide) (by decide)⟩
  have hpath : WF (baseMap (sigma x)) (strArg 82 (st l 8)) ∧ conc (baseMap (sigma x)) (strArg 82 (st l 8)) = .string x.path := by
    have h : stStr x.path.size (min x.path.size 120) 104 (st l 8) := hl 8
    cases hst : st l 8 with
    | z => rw [hst] at h; exact ⟨by simp [strArg, WF], empty _ h⟩
    | _ => exact ⟨sym_wf x (by decide) (by decide), sym_val x (by decide) (by decide)⟩
  have h60 : conc (baseMap (sigma x)) (.sym 60) = .int .u8 x.kind := sym_val x (by decide) (by decide)
  refine ⟨⟨sym_wf x (by decide) (by decide), (num 0 (by decide)).1, (num 1 (by decide)).1, (num 2 (by decide)).1, (num 3 (by decide)).1, (num 4 (by decide)).1, (num 5 (by decide)).1, hname.1, htxt.1, hpath.1, trivial, trivial⟩, ?_⟩
  unfold leafArg
  simp only [conc, concs, (num 0 (by decide)).2, (num 1 (by decide)).2, (num 2 (by decide)).2, (num 3 (by decide)).2, (num 4 (by decide)).2, (num 5 (by decide)).2, hname.2, htxt.2, hpath.2]
  rw [← h60]
  rfl
end
end Go.AEv
