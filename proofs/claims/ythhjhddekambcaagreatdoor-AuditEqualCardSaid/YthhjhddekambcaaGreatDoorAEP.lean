/- The encoding of a record of the audit, as a list of bytes: records with the same bytes are the same. Conditions: none. -/

namespace Go.AuditPlain
/-- the digits ahead of the last one -/
def hi (v : Nat) : List Nat := if _h : v = 0 then [] else hi (v / 128) ++ [v % 128 + 128]
termination_by v
decreasing_by exact Nat.div_lt_self (Nat.pos_of_ne_zero _h) (by decide)
/-- a number -/
def put (v : Nat) : List Nat := hi (v / 128) ++ [v % 128]
/-- what reads a number, and the rest -/
def dec (acc : Nat) : List Nat → Option (Nat × List Nat)
  | [] => none
  | x :: l => if x < 128 then some (acc * 128 + x, l) else dec (acc * 128 + (x - 128)) l
theorem dec_hi : ∀ (v : Nat) (l : List Nat), dec 0 (hi v ++ l) = dec v l := by
  intro v
  induction v using Nat.strongRecOn with
  | ind v ih =>
    intro l
    rw [hi]
    split
    · rename_i h; subst h; rfl
    · rename_i h
      rw [List.append_assoc, ih (v / 128) (Nat.div_lt_self (Nat.pos_of_ne_zero h) (by decide))]
      show (if v % 128 + 128 < 128 then _ else dec (v / 128 * 128 + (v % 128 + 128 - 128)) l) = _
      rw [if_neg (by omega), show v / 128 * 128 + (v % 128 + 128 - 128) = v from by omega]
theorem dec_put (v : Nat) (l : List Nat) : dec 0 (put v ++ l) = some (v, l) := by
  unfold put
  rw [List.append_assoc, dec_hi]
  show (if v % 128 < 128 then some (v / 128 * 128 + v % 128, l) else _) = _
  rw [if_pos (Nat.mod_lt _ (by decide)), show v / 128 * 128 + v % 128 = v from by omega]
theorem put_inj {a b : Nat} {s t : List Nat} (h : put a ++ s = put b ++ t) : a = b ∧ s = t := by
  have h1 := dec_put a s
  rw [h, dec_put] at h1
  cases h1
  exact ⟨rfl, rfl⟩
/-- a number with a sign -/
def zig (v : Int) : Nat := if 0 ≤ v then 2 * v.toNat else 2 * (-(v + 1)).toNat + 1
theorem zig_inj {a b : Int} (h : zig a = zig b) : a = b := by
  unfold zig at h
  split at h <;> split at h <;> omega
def putInt (v : Int) : List Nat := put (zig v)
theorem putInt_inj {a b : Int} {s t : List Nat} (h : putInt a ++ s = putInt b ++ t) : a = b ∧ s = t := by
  obtain ⟨h1, h2⟩ := put_inj h
  exact ⟨zig_inj h1, h2⟩
def putBytes (p : List Nat) : List Nat := put p.length ++ p
theorem putBytes_inj {p q s t : List Nat} (h : putBytes p ++ s = putBytes q ++ t) : p = q ∧ s = t := by
  unfold putBytes at h
  rw [List.append_assoc, List.append_assoc] at h
  obtain ⟨h1, h2⟩ := put_inj h
  exact List.append_inj h2 h1
def putFlag (b : Bool) : List Nat := if b then [1] else [0]
theorem putFlag_inj {a b : Bool} {s t : List Nat} (h : putFlag a ++ s = putFlag b ++ t) : a = b ∧ s = t := by
  cases a <;> cases b <;> simp [putFlag] at h ⊢ <;> exact h
def putAll (l : List Nat) : List Nat := l.flatMap put
def numbers (l : List Nat) : List Nat := put l.length ++ putAll l
theorem putAll_inj : ∀ {l m s t : List Nat}, l.length = m.length → putAll l ++ s = putAll m ++ t → l = m ∧ s = t
  | [], [], _, _, _, h => ⟨rfl, h⟩
  | [], _ :: _, _, _, hl, _ => by simp at hl
  | _ :: _, [], _, _, hl, _ => by simp at hl
  | a :: l, b :: m, s, t, hl, h => by
    unfold putAll at h
    rw [List.flatMap_cons, List.flatMap_cons, List.append_assoc, List.append_assoc] at h
    obtain ⟨rfl, h2⟩ := put_inj h
    obtain ⟨rfl, h3⟩ := putAll_inj (by simpa using hl) h2
    exact ⟨rfl, h3⟩
theorem numbers_inj {l m s t : List Nat} (h : numbers l ++ s = numbers m ++ t) : l = m ∧ s = t := by
  unfold numbers at h
  rw [List.append_assoc, List.append_assoc] at h
  obtain ⟨h1, h2⟩ := put_inj h
  exact putAll_inj h1 h2
/-- a record: its numbers, its texts, its flags, its lists of roles -/
structure Rec where
  number : Nat
  version : Nat
  tenant : List Nat
  session : Int
  action : List Nat
  path : List Nat
  day : Nat
  granted : Bool
  user : Nat
  up : List Nat
  down : List Nat
  does : List Nat
  at_ : List Nat
  deep : Bool
def Rec.bytes (r : Rec) : List Nat :=
  put r.number ++ (put r.version ++ (putBytes r.tenant ++ (putInt r.session ++ (putBytes r.action ++ (putBytes r.path ++ (put r.day ++ (putFlag r.granted ++
    (put r.user ++ (numbers r.up ++ (numbers r.down ++ (putBytes r.does ++ (putBytes r.at_ ++ putFlag r.deep))))))))))))
theorem Rec.bytes_inj {r s : Rec} (h : r.bytes = s.bytes) : r = s := by
  unfold Rec.bytes at h
  obtain ⟨e1, h⟩ := put_inj h
  obtain ⟨e2, h⟩ := put_inj h
  obtain ⟨e3, h⟩ := putBytes_inj h
  obtain ⟨e4, h⟩ := putInt_inj h
  obtain ⟨e5, h⟩ := putBytes_inj h
  obtain ⟨e6, h⟩ := putBytes_inj h
  obtain ⟨e7, h⟩ := put_inj h
  obtain ⟨e8, h⟩ := putFlag_inj h
  obtain ⟨e9, h⟩ := put_inj h
  obtain ⟨e10, h⟩ := numbers_inj h
  obtain ⟨e11, h⟩ := numbers_inj h
  obtain ⟨e12, h⟩ := putBytes_inj h
  obtain ⟨e13, h⟩ := putBytes_inj h
  obtain ⟨e14, _⟩ := putFlag_inj (s := []) (t := []) (by simpa using h)
  cases r
  cases s
  simp only at e1 e2 e3 e4 e5 e6 e7 e8 e9 e10 e11 e12 e13 e14
  subst e1 e2 e3 e4 e5 e6 e7 e8 e9 e10 e11 e12 e13 e14
  rfl
theorem Rec.bytes_eq {r s : Rec} : r.bytes = s.bytes ↔ r = s := ⟨Rec.bytes_inj, fun h => h ▸ rfl⟩
/-! ### The loop of Put: what it makes, digit by digit -/
theorem hi_step {v : Nat} (h : v ≠ 0) : hi v = hi (v / 128) ++ [v % 128 + 128] := by
  rw [hi, dif_neg h]
theorem hi_zero : hi 0 = [] := by rw [hi, dif_pos rfl]
/-- the loop ahead of a round: the digits left of what is there -/
theorem put_round {v w : Nat} {l : List Nat} (h : 128 ≤ v) (e : put w = hi (v / 128) ++ l) : put w = hi (v / 128 / 128) ++ ((v / 128 % 128 + 128) :: l) := by
  rw [e, hi_step (v := v / 128) (by omega), List.append_assoc]
  rfl
theorem put_end {v w : Nat} {l : List Nat} (h : v < 128) (e : put w = hi (v / 128) ++ l) : put w = l := by
  rw [e, show v / 128 = 0 by omega, hi_zero, List.nil_append]
end Go.AuditPlain
