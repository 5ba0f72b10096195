/- A transaction whose frame would be too long: what is known of the texts, and the facts that follow. Conditions: those on three functions that the facts name (what they return). -/
import Derived.Test.YtjgkfgdpcohfmaaGreatDoorEvSe
namespace Go.AEv
set_option linter.unusedSectionVars false
variable [Unk]
/-- functions: strings.Repeat, token.while, crc.Update, the test of a comment's bytes -/
structure Fns where
  rep : Nat
  while_ : Nat
  upd : Nat
  test : Nat
def i64 (n : Nat) : AVal := .int .i64 (.ofNat n)
def u64 (n : Nat) : AVal := .int .u64 (.ofNat n)
def u32 (n : Nat) : AVal := .int .u32 (.ofNat n)
def u8' (n : Nat) : AVal := .int .u8 (.ofNat n)
def S (i : Nat) : AVal := .sym i
/-- a string that is kept: its length, that it is short, that it is not empty -/
def strF (i l : Nat) : List Fact := [.len (S i) (S l), .bin .gtr (S l) (i64 1000000000) (.bool false), .eq 2 (S i) (.str []) false]
/-- a text, and what the program asks of it -/
def fA (f : Fns) (arg B : Nat) : List Fact :=
  [.conv .i64 (S arg) (S B), .bin .rem (S B) (i64 8000) (S (B + 1)), .call f.rep [.str [120], S (B + 1)] (S (B + 2)), .bin .add (.str [35]) (S (B + 2)) (S (B + 3)),
   .bin .gtr (S (B + 4)) (i64 8000) (.bool false), .eq 2 (S (B + 3)) (S (B + 3)) true,
   .at_ (S (B + 3)) 0 (u8' 35), .bin .lss (i64 0) (S (B + 4)) (.bool true), .call f.while_ [S (B + 3), i64 0, .fn f.test [] []] (S (B + 4)), .bin .lss (S (B + 4)) (S (B + 4)) (.bool false)]
/-- the reference's bytes of its length; class 0: up to 125 bytes, 1: 126 or 127, 2: 128 and more -/
def fB (B c : Nat) : List Fact := [.bin .rem (S (B + 4)) (i64 128) (S (B + 5)), .conv .u8 (S (B + 5)) (S (B + 6)), .bin .quo (S (B + 4)) (i64 128) (S (B + 7)), .bin .gtr (S (B + 7)) (i64 0) (.bool (c == 2))]
def fB2 (B c : Nat) : List Fact := if c == 2 then [.bin .rem (S (B + 7)) (i64 128) (S (B + 8)), .bin .add (i64 128) (S (B + 8)) (S (B + 9)), .conv .u8 (S (B + 9)) (S (B + 10)), .bin .quo (S (B + 7)) (i64 128) (S (B + 11)), .bin .gtr (S (B + 11)) (i64 0) (.bool false), .pack [S (B + 10), S (B + 6)] (S (B + 12))] else [.pack [S (B + 6)] (S (B + 12))]
/-- the change's bytes -/
def fE (B : Nat) : List Fact := [.bin .add (S (B + 12)) (S (B + 3)) (S (B + 13))] ++ strF (B + 13) (B + 14) ++ [.bin .add (.str [10]) (S (B + 13)) (S (B + 15))] ++ strF (B + 15) (B + 16)
/-- the bytes of its length -/
def fC (B c : Nat) : List Fact := [.conv .u64 (S (B + 16)) (S (B + 17)), .bin .rem (S (B + 17)) (u64 128) (S (B + 18)), .conv .u8 (S (B + 18)) (S (B + 19)), .bin .geq (S (B + 17)) (u64 128) (.bool (c != 0))]
def fC2 (B c : Nat) : List Fact := if c != 0 then [.bin .quo (S (B + 17)) (u64 128) (S (B + 20)), .bin .rem (S (B + 20)) (u64 128) (S (B + 21)), .conv .u8 (S (B + 21)) (S (B + 22)), .bin .add (S (B + 22)) (u8' 128) (S (B + 23)), .bin .geq (S (B + 20)) (u64 128) (.bool false), .pack [S (B + 23), S (B + 19)] (S (B + 24))] else [.pack [S (B + 19)] (S (B + 24))]
def fP (B : Nat) : List Fact := [.bin .add (S (B + 24)) (S (B + 15)) (S (B + 25))] ++ strF (B + 25) (B + 26)
/-- the program's bytes -/
def fD (B c : Nat) : List Fact := [.conv .u64 (S (B + 4)) (S (B + 30)), .bin .and (S (B + 30)) (u64 127) (S (B + 31)), .conv .u8 (S (B + 31)) (S (B + 32)), .bin .shr (S (B + 30)) (u64 7) (S (B + 33)), .bin .gtr (S (B + 33)) (u64 0) (.bool (c == 2))]
def fD2 (B c : Nat) : List Fact := if c == 2 then [.bin .and (S (B + 33)) (u64 127) (S (B + 34)), .conv .u8 (S (B + 34)) (S (B + 35)), .bin .or (S (B + 35)) (u8' 128) (S (B + 36)), .bin .shr (S (B + 33)) (u64 7) (S (B + 37)), .bin .gtr (S (B + 37)) (u64 0) (.bool false), .pack [u8' 10, S (B + 36), S (B + 32)] (S (B + 38))] else [.pack [u8' 10, S (B + 32)] (S (B + 38))]
def fF (B : Nat) : List Fact := [.bin .add (S (B + 38)) (S (B + 3)) (S (B + 39))] ++ strF (B + 39) (B + 40)
def fG (B c : Nat) : List Fact := [.conv .u64 (S (B + 40)) (S (B + 41)), .bin .and (S (B + 41)) (u64 127) (S (B + 42)), .conv .u8 (S (B + 42)) (S (B + 43)), .bin .shr (S (B + 41)) (u64 7) (S (B + 44)), .bin .gtr (S (B + 44)) (u64 0) (.bool (c != 0))]
def fG2 (B c : Nat) : List Fact := if c != 0 then [.bin .and (S (B + 44)) (u64 127) (S (B + 45)), .conv .u8 (S (B + 45)) (S (B + 46)), .bin .or (S (B + 46)) (u8' 128) (S (B + 47)), .bin .shr (S (B + 44)) (u64 7) (S (B + 48)), .bin .gtr (S (B + 48)) (u64 0) (.bool false)] else []
def fH (B c : Nat) (first : Bool) : List Fact :=
  [.pack ((if first then [1, 4, 98, 97, 110, 107, 2].map u8' else []) ++ (if c != 0 then [S (B + 47), S (B + 43)] else [S (B + 43)])) (S (B + 49)), .eq 2 (S (B + 49)) (.str []) false]
def textF (f : Fns) (arg B c : Nat) (first : Bool) : List Fact :=
  fA f arg B ++ strF (B + 3) (B + 4) ++ fB B c ++ fB2 B c ++ fE B ++ fC B c ++ fC2 B c ++ fP B ++ fD B c ++ fD2 B c ++ fF B ++ fG B c ++ fG2 B c ++ fH B c first
/-- the payload -/
def fW : List Fact := [.bin .add (S 149) (S 139) (S 260)] ++ strF 260 261 ++ [.bin .add (S 260) (S 229) (S 262)] ++ strF 262 263 ++ [.bin .add (S 262) (S 219) (S 264)] ++ strF 264 265
def fR : List Fact := [.bin .add (.str [1, 4, 98, 97, 110, 107, 2]) (S 125) (S 266)] ++ strF 266 267 ++ [.bin .add (S 266) (S 205) (S 268)] ++ strF 268 269
def fBig (big : Bool) : List Fact := [.bin .gtr (S 269) (i64 9000) (.bool big), .bin .gtr (S 265) (i64 9000) (.bool big)]
/-- the frame -/
def fX (f : Fns) : List Fact :=
  [.conv .u32 (S 265) (S 270), .conv .u8 (S 270) (S 271), .bin .shr (S 270) (u64 8) (S 272), .conv .u8 (S 272) (S 273), .bin .shr (S 270) (u64 16) (S 274), .conv .u8 (S 274) (S 275), .bin .shr (S 270) (u64 24) (S 276), .conv .u8 (S 276) (S 277),
   .pack [S 271, S 273, S 275, S 277] (S 278), .read f.upd [u32 0, .osl 0 (S 278)] (S 279), .read f.upd [S 279, .osl 0 (S 264)] (S 280),
   .conv .u8 (S 280) (S 281), .bin .shr (S 280) (u64 8) (S 282), .conv .u8 (S 282) (S 283), .bin .shr (S 280) (u64 16) (S 284), .conv .u8 (S 284) (S 285), .bin .shr (S 280) (u64 24) (S 286), .conv .u8 (S 286) (S 287),
   .pack [S 271, S 273, S 275, S 277, S 281, S 283, S 285, S 287] (S 288), .bin .add (S 288) (S 264) (S 289)] ++ strF 289 290
/-- both texts -/
def bothF (f : Fns) (c d : Nat) (big : Bool) : List Fact := textF f 60 100 c true ++ textF f 61 180 d false ++ fW ++ fR ++ fBig big ++ fX f

/-! ### The values -/
def xs (m : Nat) : List Nat := List.replicate m 120
def tx (m : Nat) : List Nat := 35 :: xs m
/-- the groups of a number below 16,384 -/
def grp (n : Nat) : List Nat := if n < 128 then [n] else [128 + n / 128, n % 128]
def lenL (n : Nat) : Nat := n % 8000 + 1
/-- the reference's and the program's bytes of a change: the same ones -/
def e1 (n : Nat) : List Nat := grp (lenL n) ++ tx (n % 8000)
def c1 (n : Nat) : List Nat := 10 :: e1 n
def p1 (n : Nat) : List Nat := grp (c1 n).length ++ c1 n
def bank : List Nat := [1, 4, 98, 97, 110, 107, 2]
def nat (k : IntKind) (n : Nat) : Value := .int k (n : Nat)
def text (l : List Nat) : Value := .string (str l)
def symT (first : Bool) (n o : Nat) : Value :=
  if o = 0 then nat .i64 n else if o = 1 then nat .i64 (n % 8000) else if o = 2 then text (xs (n % 8000)) else if o = 3 then text (tx (n % 8000)) else if o = 4 then nat .i64 (lenL n)
  else if o = 5 then nat .i64 (lenL n % 128) else if o = 6 then nat .u8 (lenL n % 128) else if o = 7 then nat .i64 (lenL n / 128) else if o = 8 then nat .i64 (lenL n / 128 % 128) else if o = 9 then nat .i64 (128 + lenL n / 128 % 128)
  else if o = 10 then nat .u8 (128 + lenL n / 128 % 128) else if o = 11 then nat .i64 (lenL n / 128 / 128) else if o = 12 then text (grp (lenL n)) else if o = 13 then text (e1 n) else if o = 14 then nat .i64 (e1 n).length
  else if o = 15 then text (c1 n) else if o = 16 then nat .i64 (c1 n).length else if o = 17 then nat .u64 (c1 n).length else if o = 18 then nat .u64 ((c1 n).length % 128) else if o = 19 then nat .u8 ((c1 n).length % 128)
  else if o = 20 then nat .u64 ((c1 n).length / 128) else if o = 21 then nat .u64 ((c1 n).length / 128 % 128) else if o = 22 then nat .u8 ((c1 n).length / 128 % 128) else if o = 23 then nat .u8 ((c1 n).length / 128 % 128 + 128)
  else if o = 24 then text (grp (c1 n).length) else if o = 25 then text (p1 n) else if o = 26 then nat .i64 (p1 n).length
  else if o = 30 then nat .u64 (lenL n) else if o = 31 then nat .u64 (lenL n % 128) else if o = 32 then nat .u8 (lenL n % 128) else if o = 33 then nat .u64 (lenL n / 128) else if o = 34 then nat .u64 (lenL n / 128 % 128) else if o = 35 then nat .u8 (lenL n / 128 % 128)
  else if o = 36 then nat .u8 (128 + lenL n / 128 % 128) else if o = 37 then nat .u64 (lenL n / 128 / 128) else if o = 38 then text (10 :: grp (lenL n)) else if o = 39 then text (c1 n) else if o = 40 then nat .i64 (c1 n).length
  else if o = 41 then nat .u64 (c1 n).length else if o = 42 then nat .u64 ((c1 n).length % 128) else if o = 43 then nat .u8 ((c1 n).length % 128) else if o = 44 then nat .u64 ((c1 n).length / 128) else if o = 45 then nat .u64 ((c1 n).length / 128 % 128)
  else if o = 46 then nat .u8 ((c1 n).length / 128 % 128) else if o = 47 then nat .u8 (128 + (c1 n).length / 128 % 128) else if o = 48 then nat .u64 ((c1 n).length / 128 / 128)
  else text (if first then bank ++ grp (c1 n).length else grp (c1 n).length)

/-- crc: one step, a byte's eight, all bytes -/
def crcStep (c : Nat) : Nat := if c % 2 = 1 then Nat.xor (c / 2) 2197175160 else c / 2
def crcSteps : Nat → Nat → Nat
  | 0, c => c
  | n + 1, c => crcSteps n (crcStep c)
def crcNot (c : Nat) : Nat := 4294967295 - c
def crcUpd (c : Nat) (l : List Nat) : Nat := crcNot (l.foldl (fun c b => crcSteps 8 (Nat.xor c b)) (crcNot c))

def all (a b : Nat) : List Nat := bank ++ p1 a ++ p1 b
def len4 (n : Nat) : List Nat := [n % 256, n / 256 % 256, n / 65536 % 256, n / 16777216 % 256]
def crc0 (a b : Nat) : Nat := crcUpd 0 (len4 (all a b).length)
def crc1 (a b : Nat) : Nat := crcUpd (crc0 a b) (all a b)
def frame (a b : Nat) : List Nat := len4 (all a b).length ++ len4 (crc1 a b) ++ all a b
def symG (a b id : Nat) : Value :=
  if id = 260 then text (bank ++ p1 a) else if id = 261 then nat .i64 (bank ++ p1 a).length else if id = 262 then text (bank ++ p1 a ++ grp (c1 b).length) else if id = 263 then nat .i64 (bank ++ p1 a ++ grp (c1 b).length).length
  else if id = 264 then text (all a b) else if id = 265 then nat .i64 (all a b).length else if id = 266 then text (bank ++ p1 a) else if id = 267 then nat .i64 (bank ++ p1 a).length else if id = 268 then text (all a b) else if id = 269 then nat .i64 (all a b).length
  else if id = 270 then nat .u32 (all a b).length else if id = 271 then nat .u8 ((all a b).length % 256) else if id = 272 then nat .u32 ((all a b).length / 256) else if id = 273 then nat .u8 ((all a b).length / 256 % 256)
  else if id = 274 then nat .u32 ((all a b).length / 65536) else if id = 275 then nat .u8 ((all a b).length / 65536 % 256) else if id = 276 then nat .u32 ((all a b).length / 16777216) else if id = 277 then nat .u8 ((all a b).length / 16777216 % 256)
  else if id = 278 then text (len4 (all a b).length) else if id = 279 then nat .u32 (crc0 a b) else if id = 280 then nat .u32 (crc1 a b)
  else if id = 281 then nat .u8 (crc1 a b % 256) else if id = 282 then nat .u32 (crc1 a b / 256) else if id = 283 then nat .u8 (crc1 a b / 256 % 256)
  else if id = 284 then nat .u32 (crc1 a b / 65536) else if id = 285 then nat .u8 (crc1 a b / 65536 % 256) else if id = 286 then nat .u32 (crc1 a b / 16777216) else if id = 287 then nat .u8 (crc1 a b / 16777216 % 256)
  else if id = 288 then text (len4 (all a b).length ++ len4 (crc1 a b)) else if id = 289 then text (frame a b) else nat .i64 (frame a b).length
def symOf (a b id : Nat) : Value :=
  if id = 60 then nat .u16 a else if id = 61 then nat .u16 b else if id < 180 then symT true a (id - 100) else if id < 260 then symT false b (id - 180) else symG a b id

def isKept (v : Value) : Bool := match v with | .int _ _ => true | .string _ => true | _ => false
theorem kept_if (c : Prop) [Decidable c] (a b : Value) (ha : isKept a = true) (hb : isKept b = true) : isKept (if c then a else b) = true := by
  split
  · exact ha
  · exact hb
theorem symT_kept (f : Bool) (n o : Nat) : isKept (symT f n o) = true := by
  unfold symT
  repeat (refine kept_if _ _ _ rfl ?_)
  rfl
theorem symG_kept (a b id : Nat) : isKept (symG a b id) = true := by
  unfold symG
  repeat (refine kept_if _ _ _ rfl ?_)
  rfl
theorem symOf_plain (a b id : Nat) : ∃ z, symVal z = symOf a b id := by
  have h : isKept (symOf a b id) = true := by
    unfold symOf
    exact kept_if _ _ _ rfl (kept_if _ _ _ rfl (kept_if _ _ _ (symT_kept _ _ _) (kept_if _ _ _ (symT_kept _ _ _) (symG_kept _ _ _))))
  revert h
  cases symOf a b id <;> intro h <;> first | exact symVal_int _ _ | exact symVal_str _ | (cases h; done)
noncomputable def codeOf (v : Value) : Nat × Nat × Nat := Classical.epsilon fun z => symVal z = v
noncomputable def sigma (a b : Nat) : Inj := fun id => if 60 ≤ id ∧ id < 300 then some (codeOf (symOf a b id)) else none
theorem sigma_lt (a b : Nat) : ∀ id z, sigma a b id = some z → id < 300 := by
  intro id z h
  unfold sigma at h
  split at h
  · rename_i h1; exact h1.2
  · cases h
/-- a value of the map -/
def Val (β : Inj) (v : AVal) (x : Value) : Prop := WF β v ∧ conc β v = x
theorem val_sym (a b : Nat) {id : Nat} {x : Value} (h1 : 60 ≤ id) (h2 : id < 300) (e : symOf a b id = x) : Val (baseMap (sigma a b)) (S id) x := by
  have hs : baseMap (sigma a b) id = some (codeOf (symOf a b id)) := by
    unfold baseMap sigma
    rw [if_neg (by omega), if_pos ⟨h1, h2⟩]
  refine ⟨by simp [S, WF, hs], ?_⟩
  simp only [S, conc, hs, Option.getD_some]
  rw [← e]
  exact Classical.epsilon_spec (symOf_plain a b id)

/-! ### Facts at numbers and strings -/
section
variable {P : Program} {tabs : List (Nat × ABlk)} {β : Inj}
theorem val_int (k : IntKind) (n : Nat) : Val β (.int k (.ofNat n)) (nat k n) := ⟨trivial, rfl⟩
theorem val_str (l : List Nat) (h : ∀ x ∈ l, x < 256) : Val β (.str l) (text l) := ⟨h, rfl⟩
theorem half_le (k : IntKind) : half k ≤ full k := by cases k <;> decide
theorem twosN (k : IntKind) {n : Nat} (h : n < half k) : twos k n = n := by
  show Nat.mod n (full k) = n
  exact Nat.mod_eq_of_lt (Nat.lt_of_lt_of_le h (half_le k))
theorem backN (k : IntKind) {n : Nat} (h : n < half k) : back k n = (n : Nat) := by
  unfold back
  rw [ifB_eq, nblt_eq, if_pos (decide_eq_true h)]
  rfl
theorem wrapN (k : IntKind) {n : Nat} (h : n < half k) : k.wrap (n : Nat) = (n : Nat) := by
  rw [← awrap_eq]
  unfold awrap
  rw [twosN k h, backN k h]
theorem same_self (k : IntKind) (v : AVal) : same k k v = some v := by
  unfold same
  rw [(kbeq_eq k k).2 rfl]
  rfl
theorem binN {op : BinOp} {k j l : IntKind} {a b r : AVal} {m n v : Nat} (ha : Val β a (nat k m)) (hb : Val β b (nat j n)) (hr : Val β r (nat l v)) (h : intOp op k (m : Nat) j (n : Nat) = some (.int l (v : Nat))) : FactTrue P tabs β (.bin op a b r) := by
  refine ⟨ha.1, hb.1, hr.1, by rw [ha.2]; rfl, fun t w => ?_⟩
  rw [ha.2, hb.2, hr.2]
  exact (run_intOp h t β w).1
theorem cmpN {op : BinOp} {k j : IntKind} {a b : AVal} {m n : Nat} {v : Bool} (ha : Val β a (nat k m)) (hb : Val β b (nat j n)) (h : intOp op k (m : Nat) j (n : Nat) = some (.bool v)) : FactTrue P tabs β (.bin op a b (.bool v)) := by
  refine ⟨ha.1, hb.1, trivial, by rw [ha.2]; rfl, fun t w => ?_⟩
  rw [ha.2, hb.2]
  exact (run_intOp h t β w).1
theorem f_rem {k : IntKind} {a r : AVal} {m n : Nat} (hn : n ≠ 0) (ha : Val β a (nat k m)) (hr : Val β r (nat k (m % n))) : FactTrue P tabs β (.bin .rem a (.int k (.ofNat n)) r) :=
  binN ha (val_int k n) hr (by
    show ifB (ibeq (n : Nat) (.ofNat 0)) none (same k k (mkInt k (itmod (m : Nat) (n : Nat)))) = _
    have : ibeq ((n : Nat) : Int) (.ofNat 0) = false := by rw [ibeq_eq]; simpa using hn
    rw [this, ifB_false, same_self, mkInt_eq]
    rfl)
theorem f_quo {k : IntKind} {a r : AVal} {m n : Nat} (hn : n ≠ 0) (hm : m < half k) (ha : Val β a (nat k m)) (hr : Val β r (nat k (m / n))) : FactTrue P tabs β (.bin .quo a (.int k (.ofNat n)) r) :=
  binN ha (val_int k n) hr (by
    show ifB (ibeq (n : Nat) (.ofNat 0)) none (same k k (mkInt k (awrap k (itdiv (m : Nat) (n : Nat))))) = _
    have : ibeq ((n : Nat) : Int) (.ofNat 0) = false := by rw [ibeq_eq]; simpa using hn
    have e : itdiv ((m : Nat) : Int) ((n : Nat) : Int) = ((m / n : Nat) : Int) := rfl
    rw [this, ifB_false, same_self, mkInt_eq, e, awrap_eq, wrapN k (Nat.lt_of_le_of_lt (Nat.div_le_self _ _) hm)])
theorem add_int {k : IntKind} {m n : Nat} (h : m + n < half k) : intOp .add k (m : Nat) k (n : Nat) = some (.int k ((m + n : Nat) : Int)) := by
  show same k k (mkInt k (awrap k (iadd (m : Nat) (n : Nat)))) = _
  have e : iadd ((m : Nat) : Int) ((n : Nat) : Int) = ((m + n : Nat) : Int) := rfl
  rw [same_self, mkInt_eq, e, awrap_eq, wrapN k h]
theorem f_addl {k : IntKind} {a r : AVal} {m n : Nat} (h : n + m < half k) (ha : Val β a (nat k m)) (hr : Val β r (nat k (n + m))) : FactTrue P tabs β (.bin .add (.int k (.ofNat n)) a r) := binN (val_int k n) ha hr (add_int h)
theorem f_addr {k : IntKind} {a r : AVal} {m n : Nat} (h : m + n < half k) (ha : Val β a (nat k m)) (hr : Val β r (nat k (m + n))) : FactTrue P tabs β (.bin .add a (.int k (.ofNat n)) r) := binN ha (val_int k n) hr (add_int h)
theorem f_and {k : IntKind} {a r : AVal} {m : Nat} (hm : m < half k) (h127 : 127 < half k) (ha : Val β a (nat k m)) (hr : Val β r (nat k (m % 128))) : FactTrue P tabs β (.bin .and a (.int k (.ofNat 127)) r) :=
  binN ha (val_int k 127) hr (by
    show same k k (mkInt k (back k (Nat.land (twos k (m : Nat)) (twos k (127 : Nat))))) = _
    have e : Nat.land m 127 = m % 128 := Nat.and_two_pow_sub_one_eq_mod m 7
    rw [twosN k hm, twosN k h127, e, backN k (Nat.lt_of_le_of_lt (Nat.mod_le _ _) hm), same_self, mkInt_eq])
theorem or128 : ∀ m, m < 128 → Nat.lor m 128 = 128 + m := by decide
theorem f_or {a r : AVal} {m : Nat} (hm : m < 128) (ha : Val β a (nat .u8 m)) (hr : Val β r (nat .u8 (128 + m))) : FactTrue P tabs β (.bin .or a (.int .u8 (.ofNat 128)) r) :=
  binN ha (val_int .u8 128) hr (by
    show same .u8 .u8 (mkInt .u8 (back .u8 (Nat.lor (twos .u8 (m : Nat)) (twos .u8 (128 : Nat))))) = _
    have h1 : m < half .u8 := Nat.lt_trans hm (by decide)
    have h2 : (128 : Nat) < half .u8 := by decide
    have h3 : 128 + m < half .u8 := by show 128 + m < 256; omega
    rw [twosN .u8 h1, twosN .u8 h2, or128 m hm, backN .u8 h3, same_self, mkInt_eq])
theorem f_shr {k : IntKind} {a r : AVal} {m n : Nat} (hn : n ≤ nbits k) (ha : Val β a (nat k m)) (hr : Val β r (nat k (m / 2 ^ n))) : FactTrue P tabs β (.bin .shr a (.int .u64 (.ofNat n)) r) :=
  binN ha (val_int .u64 n) hr (by
    have hs : shN k n = n := by
      unfold shN
      rw [ifB_eq, nble_eq, if_pos (decide_eq_true hn)]
    show some (mkInt k (.ofNat (Nat.div m (Nat.pow 2 (shN k n))))) = _
    rw [hs, mkInt_eq]
    rfl)
theorem f_gtr {k : IntKind} {a : AVal} {m n : Nat} {v : Bool} (ha : Val β a (nat k m)) (h : decide (n < m) = v) : FactTrue P tabs β (.bin .gtr a (.int k (.ofNat n)) (.bool v)) :=
  cmpN ha (val_int k n) (by
    show same k k (mkBool (ilt (n : Nat) (m : Nat))) = _
    rw [same_self, mkBool_eq, ilt_eq, ← h]
    congr 2
    simp)
theorem f_geq {k : IntKind} {a : AVal} {m n : Nat} {v : Bool} (ha : Val β a (nat k m)) (h : decide (n ≤ m) = v) : FactTrue P tabs β (.bin .geq a (.int k (.ofNat n)) (.bool v)) :=
  cmpN ha (val_int k n) (by
    show same k k (mkBool (bnot (ilt (m : Nat) (n : Nat)))) = _
    rw [same_self, mkBool_eq, bnot_eq, ilt_eq, ← h]
    congr 2
    rw [Bool.eq_iff_iff]
    simp)
theorem f_lss {k : IntKind} {a b : AVal} {m n : Nat} {v : Bool} (ha : Val β a (nat k m)) (hb : Val β b (nat k n)) (h : decide (m < n) = v) : FactTrue P tabs β (.bin .lss a b (.bool v)) :=
  cmpN ha hb (by
    show same k k (mkBool (ilt (m : Nat) (n : Nat))) = _
    rw [same_self, mkBool_eq, ilt_eq, ← h]
    congr 2
    simp)
theorem f_conv {k j : IntKind} {a r : AVal} {m : Nat} (hm : m < half k) (ha : Val β a (nat j m)) (hr : Val β r (nat k m)) : FactTrue P tabs β (.conv k a r) :=
  ⟨ha.1, hr.1, j, (m : Nat), ha.2, by rw [hr.2, wrapN k hm]; rfl⟩
/-- a conversion that keeps the low eight bits -/
theorem f_low {j : IntKind} {a r : AVal} {m : Nat} (ha : Val β a (nat j m)) (hr : Val β r (nat .u8 (m % 256))) : FactTrue P tabs β (.conv .u8 a r) :=
  ⟨ha.1, hr.1, j, (m : Nat), ha.2, by
    rw [hr.2]
    have e : IntKind.u8.wrap (m : Nat) = ((m % 256 : Nat) : Int) := by
      rw [← awrap_eq]
      show back .u8 (Nat.mod m 256) = _
      exact backN .u8 (Nat.mod_lt _ (by decide))
    rw [e]; rfl⟩
theorem text_size (l : List Nat) : (str l).size = l.length := str_size l
theorem f_len {a r : AVal} {l : List Nat} (ha : Val β a (text l)) (hr : Val β r (nat .i64 l.length)) : FactTrue P tabs β (.len a r) := ⟨ha.1, hr.1, str l, ha.2, by rw [hr.2, text_size]; rfl⟩
theorem f_some {a : AVal} {l : List Nat} (ha : Val β a (text l)) (h : l ≠ []) : FactTrue P tabs β (.eq 2 a (.str []) false) :=
  ⟨ha.1, by simp [WF], .inr ⟨rfl, str l, str [], ha.2, rfl, by
    symm
    rw [decide_eq_false_iff_not]
    intro e
    apply h
    have := congrArg ByteArray.size e
    rw [text_size, text_size] at this
    exact List.length_eq_zero_iff.1 this⟩⟩
theorem f_self {a : AVal} {l : List Nat} (ha : Val β a (text l)) : FactTrue P tabs β (.eq 2 a a true) := ⟨ha.1, ha.1, .inr ⟨rfl, _, _, ha.2, ha.2, by simp⟩⟩
theorem f_cat {a b r : AVal} {l m : List Nat} (ha : Val β a (text l)) (hb : Val β b (text m)) (hr : Val β r (text (l ++ m))) (hs : l.length + m.length ≤ 1000000) : FactTrue P tabs β (.bin .add a b r) := by
  refine ⟨ha.1, hb.1, hr.1, by rw [ha.2]; rfl, fun t w => ?_⟩
  rw [ha.2, hb.2, hr.2]
  show (Op.stringOp .add (str l) (str m)).run P w = _
  simp only [Op.stringOp]
  rw [if_neg (by
    rw [text_size, text_size]
    have : IntKind.i64.max = 9223372036854775807 := by decide
    rw [this]; omega), str_append]
  rfl
theorem f_at {a : AVal} {l : List Nat} {i b : Nat} (ha : Val β a (text l)) (h : l[i]? = some b) (hb : b < 256) : FactTrue P tabs β (.at_ a i (.int .u8 (.ofNat b))) := by
  refine ⟨ha.1, trivial, str l, UInt8.ofNat b, ha.2, ?_, ?_⟩
  · show (l.map UInt8.ofNat).toArray[i]? = _
    simp [h]
  · show Value.int .u8 (b : Nat) = _
    congr 1
    simp
    omega
/-- bytes, one by one -/
def Vals (β : Inj) : List AVal → List Nat → Prop
  | [], [] => True
  | v :: l, b :: m => Val β v (nat .u8 b) ∧ Vals β l m
  | _, _ => False
theorem vals_ok : ∀ {l : List AVal} {bs : List Nat}, Vals β l bs → WFs β l ∧ concs β l = bs.map fun b => nat .u8 b
  | [], [], _ => ⟨trivial, rfl⟩
  | [], _ :: _, h => h.elim
  | _ :: _, [], h => h.elim
  | v :: l, b :: bs, h => by
    obtain ⟨a1, a2⟩ := vals_ok h.2
    exact ⟨⟨h.1.1, a1⟩, by rw [concs, h.1.2, a2]; rfl⟩
theorem vals_app : ∀ {l m : List AVal} {bs cs : List Nat}, Vals β l bs → Vals β m cs → Vals β (l ++ m) (bs ++ cs)
  | [], _, [], _, _, h => h
  | [], _, _ :: _, _, h, _ => h.elim
  | _ :: _, _, [], _, h, _ => h.elim
  | _ :: _, _, _ :: _, _, h, k => ⟨h.1, vals_app h.2 k⟩
theorem vals_u8 (bs : List Nat) : Vals β (bs.map u8') bs := by
  induction bs with
  | nil => trivial
  | cons b bs ih => exact ⟨val_int .u8 b, ih⟩
theorem f_pack {l : List AVal} {r : AVal} {bs : List Nat} (h : Vals β l bs) (hb : ∀ b ∈ bs, b < 256) (hr : Val β r (text bs)) : FactTrue P tabs β (.pack l r) := by
  obtain ⟨a1, a2⟩ := vals_ok h
  refine ⟨a1, hr.1, str bs, hr.2, ?_⟩
  rw [a2, str_list, List.map_map]
  refine List.map_congr_left fun b hbm => ?_
  have := hb b hbm
  show Value.int .u8 (b : Nat) = Value.int .u8 ((UInt8.ofNat b).toNat : Nat)
  congr 1
  simp
  omega
theorem f_str {i l : Nat} {bs : List Nat} (hi : Val β (S i) (text bs)) (hl : Val β (S l) (nat .i64 bs.length)) (h : bs ≠ []) (hs : bs.length ≤ 1000000) : ∀ f ∈ strF i l, FactTrue P tabs β f := by
  intro f hf
  simp only [strF, List.mem_cons, List.mem_nil_iff, or_false] at hf
  rcases hf with rfl | rfl | rfl
  · exact f_len hi hl
  · exact f_gtr hl (decide_eq_false (by omega))
  · exact f_some hi h
end

/-! ### Sizes -/
theorem lenL_le (n : Nat) : 1 ≤ lenL n ∧ lenL n ≤ 8000 := by unfold lenL; omega
theorem tx_length (n : Nat) : (tx (n % 8000)).length = lenL n := by simp [tx, xs, lenL]
theorem grp_small {n : Nat} (h : n < 128) : grp n = [n] := if_pos h
theorem grp_big {n : Nat} (h : ¬ n < 128) : grp n = [128 + n / 128, n % 128] := if_neg h
theorem grp_ok {n : Nat} (h : n < 16384) : ∀ b ∈ grp n, b < 256 := by
  intro b hb
  unfold grp at hb
  split at hb
  · rw [List.mem_singleton.1 hb]; omega
  · simp only [List.mem_cons, List.mem_nil_iff, or_false] at hb
    rcases hb with rfl | rfl <;> omega
theorem grp_len (n : Nat) : 1 ≤ (grp n).length ∧ (grp n).length ≤ 2 := by unfold grp; split <;> simp
def cls (n : Nat) : Nat := if lenL n ≤ 125 then 0 else if lenL n < 128 then 1 else 2
theorem e1_length (n : Nat) : (e1 n).length = (grp (lenL n)).length + lenL n := by rw [e1, List.length_append, tx_length]
theorem c1_length (n : Nat) : (c1 n).length = 1 + (grp (lenL n)).length + lenL n := by rw [c1, List.length_cons, e1_length]; omega
theorem p1_length (n : Nat) : (p1 n).length = (grp (c1 n).length).length + (c1 n).length := by rw [p1, List.length_append]
theorem c1_cls (n : Nat) : (cls n = 0 ∧ lenL n < 128 ∧ (c1 n).length < 128) ∨ (cls n = 1 ∧ lenL n < 128 ∧ 128 ≤ (c1 n).length ∧ (c1 n).length < 16384) ∨ (cls n = 2 ∧ 128 ≤ lenL n ∧ 128 ≤ (c1 n).length ∧ (c1 n).length < 16384) := by
  have h1 := lenL_le n
  have h2 := c1_length n
  unfold cls
  by_cases ha : lenL n ≤ 125
  · rw [grp_small (by omega)] at h2
    exact .inl ⟨if_pos ha, by omega, by rw [h2]; simp; omega⟩
  · rw [if_neg ha]
    by_cases hb : lenL n < 128
    · rw [grp_small hb] at h2
      exact .inr (.inl ⟨if_pos hb, hb, by rw [h2]; simp; omega, by rw [h2]; simp; omega⟩)
    · rw [grp_big hb] at h2
      exact .inr (.inr ⟨if_neg hb, by omega, by rw [h2]; simp; omega, by rw [h2]; simp; omega⟩)

/-! ### A text's facts -/
section
variable {P : Program} {tabs : List (Nat × ABlk)} {β : Inj}
theorem all_app {l m : List Fact} (h1 : ∀ f ∈ l, FactTrue P tabs β f) (h2 : ∀ f ∈ m, FactTrue P tabs β f) : ∀ f ∈ l ++ m, FactTrue P tabs β f := by
  intro f hf
  rcases List.mem_append.1 hf with hf | hf
  · exact h1 f hf
  · exact h2 f hf
theorem all_nil : ∀ f ∈ ([] : List Fact), FactTrue P tabs β f := by intro f hf; cases hf
theorem all_cons {f : Fact} {l : List Fact} (h1 : FactTrue P tabs β f) (h2 : ∀ g ∈ l, FactTrue P tabs β g) : ∀ g ∈ f :: l, FactTrue P tabs β g := by
  intro g hg
  rcases List.mem_cons.1 hg with rfl | hg
  · exact h1
  · exact h2 g hg

theorem textF_true {f : Fns} {n arg B : Nat} {first : Bool} (hn : n < 65536) (ha : Val β (S arg) (nat .u16 n)) (V : ∀ o x, o < 80 → symT first n o = x → Val β (S (B + o)) x)
    (hrep : ∀ w, TabsIn P tabs w → Calls P f.rep #[.string (str [120]), nat .i64 (n % 8000)] w fun e w2 => e = .returned (text (xs (n % 8000))) ∧ Grown w w2)
    (hwhile : ∀ w, TabsIn P tabs w → Calls P f.while_ #[text (tx (n % 8000)), .int .i64 0, .func (.func f.test) #[] #[]] w fun e w2 => e = .returned (nat .i64 (lenL n)) ∧ Grown w w2) :
    ∀ g ∈ textF f arg B (cls n) first, FactTrue P tabs β g := by
  have hL := lenL_le n
  have hl : (tx (n % 8000)).length = lenL n := tx_length n
  have V0 : Val β (S B) (nat .i64 n) := V 0 _ (by decide) rfl
  have V3 : Val β (S (B + 3)) (text (tx (n % 8000))) := V 3 _ (by decide) rfl
  have V4 : Val β (S (B + 4)) (nat .i64 (lenL n)) := V 4 _ (by decide) rfl
  have V13 : Val β (S (B + 13)) (text (e1 n)) := V 13 _ (by decide) rfl
  have V15 : Val β (S (B + 15)) (text (c1 n)) := V 15 _ (by decide) rfl
  have V16 : Val β (S (B + 16)) (nat .i64 (c1 n).length) := V 16 _ (by decide) rfl
  have V17 : Val β (S (B + 17)) (nat .u64 (c1 n).length) := V 17 _ (by decide) rfl
  have V39 : Val β (S (B + 39)) (text (c1 n)) := V 39 _ (by decide) rfl
  have V40 : Val β (S (B + 40)) (nat .i64 (c1 n).length) := V 40 _ (by decide) rfl
  have V41 : Val β (S (B + 41)) (nat .u64 (c1 n).length) := V 41 _ (by decide) rfl
  have V30 : Val β (S (B + 30)) (nat .u64 (lenL n)) := V 30 _ (by decide) rfl
  have hg := grp_len (lenL n)
  have hg2 := grp_len (c1 n).length
  have e1l := e1_length n
  have c1l := c1_length n
  have p1l := p1_length n
  have hi : ∀ m, m ≤ 100000 → m < half .i64 := fun m h => Nat.lt_of_le_of_lt h (by decide)
  have hu : ∀ m, m ≤ 100000 → m < half .u64 := fun m h => Nat.lt_of_le_of_lt h (by decide)
  have h8 : ∀ m, m < 256 → m < half .u8 := fun m h => h
  have ne : ∀ {l : List Nat}, 0 < l.length → l ≠ [] := fun h e => by rw [e] at h; cases h
  have bank_ok : ∀ b ∈ bank, b < 256 := by decide
  have hi0 : lenL n < half .i64 := hi _ (by omega)
  have partA : ∀ g ∈ fA f arg B, FactTrue P tabs β g := by
    refine all_cons (f_conv (hi n (by omega)) ha V0) (all_cons (f_rem (by decide) V0 (V 1 _ (by decide) rfl)) (all_cons ?_ (all_cons (f_cat (l := [35]) (m := xs (n % 8000)) (val_str [35] (by decide)) (V 2 _ (by decide) rfl) V3 (by simp [xs]; omega)) (all_cons (f_gtr V4 (decide_eq_false (by omega)))
      (all_cons (f_self V3) (all_cons (f_at (b := 35) V3 rfl (by decide)) (all_cons (f_lss (val_int .i64 0) V4 (decide_eq_true (by omega))) (all_cons ?_ (all_cons (f_lss V4 V4 (decide_eq_false (by omega))) all_nil)))))))))
    · have V1 : Val β (S (B + 1)) (nat .i64 (n % 8000)) := V 1 _ (by decide) rfl
      have V2 : Val β (S (B + 2)) (text (xs (n % 8000))) := V 2 _ (by decide) rfl
      refine ⟨⟨by simp [WF], V1.1, trivial⟩, V2.1, fun w hw => ?_⟩
      have e : (concs β [.str [120], S (B + 1)]).toArray = #[.string (str [120]), nat .i64 (n % 8000)] := by rw [concs, concs, concs, V1.2, conc]
      rw [e, V2.2]
      exact hrep w hw
    · refine ⟨⟨V3.1, trivial, ⟨trivial, trivial⟩, trivial⟩, V4.1, fun w hw => ?_⟩
      have e : (concs β [S (B + 3), i64 0, .fn f.test [] []]).toArray = #[text (tx (n % 8000)), .int .i64 0, .func (.func f.test) #[] #[]] := by rw [concs, concs, concs, concs, V3.2]; rfl
      rw [e, V4.2]
      exact hwhile w hw
  have partS : ∀ g ∈ strF (B + 3) (B + 4), FactTrue P tabs β g := f_str V3 (by rw [hl]; exact V4) (ne (by omega)) (by omega)
  have partE : ∀ g ∈ fE B, FactTrue P tabs β g :=
    all_app (all_app (all_app (all_cons (f_cat (l := grp (lenL n)) (m := tx (n % 8000)) (V 12 _ (by decide) rfl) V3 V13 (by omega)) all_nil) (f_str V13 (V 14 _ (by decide) rfl) (ne (by omega)) (by omega)))
      (all_cons (f_cat (l := [10]) (m := e1 n) (val_str [10] (by decide)) V13 V15 (by simp; omega)) all_nil)) (f_str V15 V16 (ne (by omega)) (by omega))
  have partP : ∀ g ∈ fP B, FactTrue P tabs β g :=
    all_app (all_cons (f_cat (l := grp (c1 n).length) (m := c1 n) (V 24 _ (by decide) rfl) V15 (V 25 _ (by decide) rfl) (by omega)) all_nil) (f_str (bs := p1 n) (V 25 _ (by decide) rfl) (V 26 _ (by decide) rfl) (ne (by omega)) (by omega))
  have partF : ∀ g ∈ fF B, FactTrue P tabs β g :=
    all_app (all_cons (f_cat (l := 10 :: grp (lenL n)) (m := tx (n % 8000)) (V 38 _ (by decide) rfl) V3 V39 (by simp; omega)) all_nil) (f_str V39 V40 (ne (by omega)) (by omega))
  have V6 : Val β (S (B + 6)) (nat .u8 (lenL n % 128)) := V 6 _ (by decide) rfl
  have V7 : Val β (S (B + 7)) (nat .i64 (lenL n / 128)) := V 7 _ (by decide) rfl
  have V19 : Val β (S (B + 19)) (nat .u8 ((c1 n).length % 128)) := V 19 _ (by decide) rfl
  have V32 : Val β (S (B + 32)) (nat .u8 (lenL n % 128)) := V 32 _ (by decide) rfl
  have V33 : Val β (S (B + 33)) (nat .u64 (lenL n / 128)) := V 33 _ (by decide) rfl
  have V43 : Val β (S (B + 43)) (nat .u8 ((c1 n).length % 128)) := V 43 _ (by decide) rfl
  have V44 : Val β (S (B + 44)) (nat .u64 ((c1 n).length / 128)) := V 44 _ (by decide) rfl
  have gB : ∀ c, decide (0 < lenL n / 128) = (c == 2) → ∀ g ∈ fB B c, FactTrue P tabs β g := fun c hc =>
    all_cons (f_rem (by decide) V4 (V 5 _ (by decide) rfl)) (all_cons (f_conv (h8 _ (by omega)) (V 5 _ (by decide) rfl) V6) (all_cons (f_quo (by decide) hi0 V4 V7) (all_cons (f_gtr V7 hc) all_nil)))
  have gC : ∀ c, decide (128 ≤ (c1 n).length) = (c != 0) → ∀ g ∈ fC B c, FactTrue P tabs β g := fun c hc =>
    all_cons (f_conv (hu _ (by omega)) V16 V17) (all_cons (f_rem (by decide) V17 (V 18 _ (by decide) rfl)) (all_cons (f_conv (h8 _ (by omega)) (V 18 _ (by decide) rfl) V19) (all_cons (f_geq V17 hc) all_nil)))
  have gD : ∀ c, decide (0 < lenL n / 128) = (c == 2) → ∀ g ∈ fD B c, FactTrue P tabs β g := fun c hc =>
    all_cons (f_conv (hu _ (by omega)) V4 V30) (all_cons (f_and (hu _ (by omega)) (hu _ (by decide)) V30 (V 31 _ (by decide) rfl)) (all_cons (f_conv (h8 _ (by omega)) (V 31 _ (by decide) rfl) V32) (all_cons (f_shr (n := 7) (by decide) V30 V33) (all_cons (f_gtr V33 hc) all_nil))))
  have gG : ∀ c, decide (0 < (c1 n).length / 128) = (c != 0) → ∀ g ∈ fG B c, FactTrue P tabs β g := fun c hc =>
    all_cons (f_conv (hu _ (by omega)) V40 V41) (all_cons (f_and (hu _ (by omega)) (hu _ (by decide)) V41 (V 42 _ (by decide) rfl)) (all_cons (f_conv (h8 _ (by omega)) (V 42 _ (by decide) rfl) V43) (all_cons (f_shr (n := 7) (by decide) V41 V44) (all_cons (f_gtr V44 hc) all_nil))))
  have gok := grp_ok (n := lenL n) (by omega)
  have gok2 := grp_ok (n := (c1 n).length) (by omega)
  -- short texts
  have sB : ∀ c, (c == 2) = false → lenL n < 128 → ∀ g ∈ fB2 B c, FactTrue P tabs β g := by
    intro c hc hs
    unfold fB2
    rw [hc]
    exact all_cons (f_pack (bs := grp (lenL n)) (by rw [grp_small hs]; exact ⟨by rw [Nat.mod_eq_of_lt hs] at V6; exact V6, trivial⟩) gok (V 12 _ (by decide) rfl)) all_nil
  have sD : ∀ c, (c == 2) = false → lenL n < 128 → ∀ g ∈ fD2 B c, FactTrue P tabs β g := by
    intro c hc hs
    unfold fD2
    rw [hc]
    exact all_cons (f_pack (bs := 10 :: grp (lenL n)) (by rw [grp_small hs]; exact ⟨val_int .u8 10, by rw [Nat.mod_eq_of_lt hs] at V32; exact V32, trivial⟩) (by intro b hb; rcases List.mem_cons.1 hb with rfl | hb <;> first | decide | exact gok b hb) (V 38 _ (by decide) rfl)) all_nil
  -- long texts
  have lB : ∀ c, (c == 2) = true → 128 ≤ lenL n → ∀ g ∈ fB2 B c, FactTrue P tabs β g := by
    intro c hc hs
    unfold fB2
    rw [hc]
    have e : lenL n / 128 % 128 = lenL n / 128 := Nat.mod_eq_of_lt (by omega)
    refine all_cons (f_rem (by decide) V7 (V 8 _ (by decide) rfl)) (all_cons (f_addl (n := 128) (hi _ (by omega)) (V 8 _ (by decide) rfl) (V 9 _ (by decide) rfl)) (all_cons (f_conv (h8 _ (by omega)) (V 9 _ (by decide) rfl) (V 10 _ (by decide) rfl)) (all_cons (f_quo (by decide) (hi _ (by omega)) V7 (V 11 _ (by decide) rfl))
      (all_cons (f_gtr (V 11 (nat .i64 (lenL n / 128 / 128)) (by decide) rfl) (decide_eq_false (by omega))) (all_cons (f_pack (bs := grp (lenL n)) ?_ gok (V 12 _ (by decide) rfl)) all_nil)))))
    rw [grp_big (by omega)]
    have V10 : Val β (S (B + 10)) (nat .u8 (128 + lenL n / 128 % 128)) := V 10 _ (by decide) rfl
    rw [e] at V10
    exact ⟨V10, V6, trivial⟩
  have lD : ∀ c, (c == 2) = true → 128 ≤ lenL n → ∀ g ∈ fD2 B c, FactTrue P tabs β g := by
    intro c hc hs
    unfold fD2
    rw [hc]
    have e : lenL n / 128 % 128 = lenL n / 128 := Nat.mod_eq_of_lt (by omega)
    refine all_cons (f_and (hu _ (by omega)) (hu _ (by decide)) V33 (V 34 _ (by decide) rfl)) (all_cons (f_conv (h8 _ (by omega)) (V 34 _ (by decide) rfl) (V 35 _ (by decide) rfl)) (all_cons (f_or (by omega) (V 35 _ (by decide) rfl) (V 36 _ (by decide) rfl)) (all_cons (f_shr (n := 7) (by decide) V33 (V 37 _ (by decide) rfl))
      (all_cons (f_gtr (V 37 (nat .u64 (lenL n / 128 / 128)) (by decide) rfl) (decide_eq_false (by omega))) (all_cons (f_pack (bs := 10 :: grp (lenL n)) ?_ (by intro b hb; rcases List.mem_cons.1 hb with rfl | hb <;> first | decide | exact gok b hb) (V 38 _ (by decide) rfl)) all_nil)))))
    rw [grp_big (by omega)]
    have V36 : Val β (S (B + 36)) (nat .u8 (128 + lenL n / 128 % 128)) := V 36 _ (by decide) rfl
    rw [e] at V36
    exact ⟨val_int .u8 10, V36, V32, trivial⟩
  have sC : ∀ c, (c != 0) = false → (c1 n).length < 128 → ∀ g ∈ fC2 B c, FactTrue P tabs β g := by
    intro c hc hs
    unfold fC2
    rw [hc]
    exact all_cons (f_pack (bs := grp (c1 n).length) (by rw [grp_small hs]; exact ⟨by rw [Nat.mod_eq_of_lt hs] at V19; exact V19, trivial⟩) gok2 (V 24 _ (by decide) rfl)) all_nil
  have lC : ∀ c, (c != 0) = true → 128 ≤ (c1 n).length → ∀ g ∈ fC2 B c, FactTrue P tabs β g := by
    intro c hc hs
    unfold fC2
    rw [hc]
    have e : (c1 n).length / 128 % 128 = (c1 n).length / 128 := Nat.mod_eq_of_lt (by omega)
    have V20 : Val β (S (B + 20)) (nat .u64 ((c1 n).length / 128)) := V 20 _ (by decide) rfl
    refine all_cons (f_quo (by decide) (hu _ (by omega)) V17 V20) (all_cons (f_rem (by decide) V20 (V 21 _ (by decide) rfl)) (all_cons (f_conv (h8 _ (by omega)) (V 21 _ (by decide) rfl) (V 22 _ (by decide) rfl)) (all_cons (f_addr (n := 128) (h8 _ (by omega)) (V 22 _ (by decide) rfl) (V 23 _ (by decide) rfl))
      (all_cons (f_geq V20 (decide_eq_false (by omega))) (all_cons (f_pack (bs := grp (c1 n).length) ?_ gok2 (V 24 _ (by decide) rfl)) all_nil)))))
    rw [grp_big (by omega)]
    have V23 : Val β (S (B + 23)) (nat .u8 ((c1 n).length / 128 % 128 + 128)) := V 23 _ (by decide) rfl
    rw [e, Nat.add_comm ((c1 n).length / 128) 128] at V23
    exact ⟨V23, V19, trivial⟩
  have hbank : Vals β ((if first = true then [1, 4, 98, 97, 110, 107, 2].map u8' else []) : List AVal) (if first = true then bank else []) := by
    cases first
    · trivial
    · exact vals_u8 bank
  have V49 : Val β (S (B + 49)) (text ((if first = true then bank else []) ++ grp (c1 n).length)) := by
    refine V 49 _ (by decide) ?_
    show text (if first = true then bank ++ grp (c1 n).length else grp (c1 n).length) = _
    cases first <;> rfl
  have hbok : ∀ b ∈ (if first = true then bank else []) ++ grp (c1 n).length, b < 256 := by
    intro b hb
    rcases List.mem_append.1 hb with hb | hb
    · cases first
      · cases hb
      · exact bank_ok b hb
    · exact gok2 b hb
  have hbne : (if first = true then bank else []) ++ grp (c1 n).length ≠ [] := ne (by rw [List.length_append]; omega)
  have sG : ∀ c, (c != 0) = false → (c1 n).length < 128 → ∀ g ∈ fG2 B c ++ fH B c first, FactTrue P tabs β g := by
    intro c hc hs
    unfold fG2 fH
    rw [hc]
    exact all_app all_nil (all_cons (f_pack (bs := (if first = true then bank else []) ++ grp (c1 n).length) (vals_app hbank (by rw [grp_small hs]; exact ⟨by rw [Nat.mod_eq_of_lt hs] at V43; exact V43, trivial⟩)) hbok V49) (all_cons (f_some V49 hbne) all_nil))
  have lG : ∀ c, (c != 0) = true → 128 ≤ (c1 n).length → ∀ g ∈ fG2 B c ++ fH B c first, FactTrue P tabs β g := by
    intro c hc hs
    unfold fG2 fH
    rw [hc]
    have e : (c1 n).length / 128 % 128 = (c1 n).length / 128 := Nat.mod_eq_of_lt (by omega)
    have V47 : Val β (S (B + 47)) (nat .u8 (128 + (c1 n).length / 128 % 128)) := V 47 _ (by decide) rfl
    rw [e] at V47
    exact all_app (all_cons (f_and (hu _ (by omega)) (hu _ (by decide)) V44 (V 45 _ (by decide) rfl)) (all_cons (f_conv (h8 _ (by omega)) (V 45 _ (by decide) rfl) (V 46 _ (by decide) rfl)) (all_cons (f_or (by omega) (V 46 _ (by decide) rfl) (V 47 _ (by decide) rfl)) (all_cons (f_shr (n := 7) (by decide) V44 (V 48 _ (by decide) rfl))
      (all_cons (f_gtr (V 48 (nat .u64 ((c1 n).length / 128 / 128)) (by decide) rfl) (decide_eq_false (by omega))) all_nil)))))
      (all_cons (f_pack (bs := (if first = true then bank else []) ++ grp (c1 n).length) (vals_app hbank (by rw [grp_big (by omega)]; exact ⟨V47, V43, trivial⟩)) hbok V49) (all_cons (f_some V49 hbne) all_nil))
  have join : ∀ c, (∀ g ∈ fB B c, FactTrue P tabs β g) → (∀ g ∈ fB2 B c, FactTrue P tabs β g) → (∀ g ∈ fC B c, FactTrue P tabs β g) → (∀ g ∈ fC2 B c, FactTrue P tabs β g) → (∀ g ∈ fD B c, FactTrue P tabs β g) → (∀ g ∈ fD2 B c, FactTrue P tabs β g) → (∀ g ∈ fG B c, FactTrue P tabs β g) →
      (∀ g ∈ fG2 B c ++ fH B c first, FactTrue P tabs β g) → ∀ g ∈ textF f arg B c first, FactTrue P tabs β g := by
    intro c a1 a2 a3 a4 a5 a6 a7 a8
    unfold textF
    rw [List.append_assoc _ (fG2 B c) (fH B c first)]
    exact all_app (all_app (all_app (all_app (all_app (all_app (all_app (all_app (all_app (all_app (all_app (all_app partA partS) a1) a2) partE) a3) a4) partP) a5) a6) partF) a7) a8
  rcases c1_cls n with ⟨e, h1, h2⟩ | ⟨e, h1, h2, h3⟩ | ⟨e, h1, h2, h3⟩
  · rw [e]
    exact join 0 (gB 0 (decide_eq_false (by omega))) (sB 0 rfl h1) (gC 0 (decide_eq_false (by omega))) (sC 0 rfl h2) (gD 0 (decide_eq_false (by omega))) (sD 0 rfl h1) (gG 0 (decide_eq_false (by omega))) (sG 0 rfl h2)
  · rw [e]
    exact join 1 (gB 1 (decide_eq_false (by omega))) (sB 1 rfl h1) (gC 1 (decide_eq_true (by omega))) (lC 1 rfl h2) (gD 1 (decide_eq_false (by omega))) (sD 1 rfl h1) (gG 1 (decide_eq_true (by omega))) (lG 1 rfl h2)
  · rw [e]
    exact join 2 (gB 2 (decide_eq_true (by omega))) (lB 2 rfl h1) (gC 2 (decide_eq_true (by omega))) (lC 2 rfl h2) (gD 2 (decide_eq_true (by omega))) (lD 2 rfl h1) (gG 2 (decide_eq_true (by omega))) (lG 2 rfl h2)
end

/-! ### Both texts -/
theorem p1_bounds (n : Nat) : 4 ≤ (p1 n).length ∧ (p1 n).length ≤ 8006 := by
  have h1 := lenL_le n
  have h2 := c1_length n
  have h3 := p1_length n
  have h4 := grp_len (lenL n)
  have h5 := grp_len (c1 n).length
  omega
theorem all_length (a b : Nat) : (all a b).length = 7 + (p1 a).length + (p1 b).length := by
  unfold all
  rw [List.length_append, List.length_append]
  rfl
theorem p1_ok (n : Nat) : ∀ x ∈ p1 n, x < 256 := by
  have h1 := lenL_le n
  have h2 := c1_length n
  have h4 := grp_len (lenL n)
  intro x hx
  unfold p1 at hx
  rcases List.mem_append.1 hx with hx | hx
  · exact grp_ok (by omega) x hx
  · unfold c1 e1 tx xs at hx
    rcases List.mem_cons.1 hx with rfl | hx
    · decide
    · rcases List.mem_append.1 hx with hx | hx
      · exact grp_ok (by omega) x hx
      · rcases List.mem_cons.1 hx with rfl | hx
        · decide
        · rw [List.eq_of_mem_replicate hx]; decide
theorem all_ok (a b : Nat) : ∀ x ∈ all a b, x < 256 := by
  intro x hx
  unfold all at hx
  rcases List.mem_append.1 hx with hx | hx
  · rcases List.mem_append.1 hx with hx | hx
    · have : ∀ y ∈ bank, y < 256 := by decide
      exact this x hx
    · exact p1_ok a x hx
  · exact p1_ok b x hx
theorem len4_ok (n : Nat) : ∀ x ∈ len4 n, x < 256 := by
  intro x hx
  simp only [len4, List.mem_cons, List.mem_nil_iff, or_false] at hx
  rcases hx with rfl | rfl | rfl | rfl <;> exact Nat.mod_lt _ (by decide)
theorem xor_lt32 {a b : Nat} (ha : a < 4294967296) (hb : b < 4294967296) : Nat.xor a b < 4294967296 := Nat.xor_lt_two_pow (n := 32) ha hb
theorem crcStep_lt {c : Nat} (h : c < 4294967296) : crcStep c < 4294967296 := by
  unfold crcStep
  split
  · exact xor_lt32 (by omega) (by decide)
  · omega
theorem crcSteps_lt : ∀ n {c : Nat}, c < 4294967296 → crcSteps n c < 4294967296
  | 0, _, h => h
  | n + 1, _, h => crcSteps_lt n (crcStep_lt h)
theorem crcUpd_lt (c : Nat) (l : List Nat) : crcUpd c l < 4294967296 := by
  unfold crcUpd crcNot
  omega

section
variable {P : Program} {tabs : List (Nat × ABlk)}
/-- what the three functions do -/
structure Does (P : Program) (tabs : List (Nat × ABlk)) (f : Fns) : Prop where
  rep : ∀ n, n < 8000 → ∀ w, TabsIn P tabs w → Calls P f.rep #[.string (str [120]), nat .i64 n] w fun e w2 => e = .returned (text (xs n)) ∧ Grown w w2
  while_ : ∀ n, n < 8000 → ∀ w, TabsIn P tabs w → Calls P f.while_ #[text (tx n), .int .i64 0, .func (.func f.test) #[] #[]] w fun e w2 => e = .returned (nat .i64 (n + 1)) ∧ Grown w w2
  upd : ∀ (c : Nat) (l : List Nat) (b o cap : Nat) (w : World), c < 4294967296 → (∀ x ∈ l, x < 256) → l.length ≤ cap → l.length ≤ 1000000 → TabsIn P tabs w → (∀ i (x : Nat), l[i]? = some x → w.cell? ⟨b, o + i, none⟩ = some (nat .u8 x)) →
    Calls P f.upd #[nat .u32 c, .slice (some ⟨b, o, none⟩) l.length cap] w fun e w2 => e = .returned (nat .u32 (crcUpd c l)) ∧ Grown w w2

theorem read_fact {β : Inj} {f : Fns} (hd : Does P tabs f) {ca s r : AVal} {c : Nat} {l : List Nat} (hc : Val β ca (nat .u32 c)) (hn : asOsl ca = none) (hs : Val β s (text l)) (hr : Val β r (nat .u32 (crcUpd c l))) (hlt : c < 4294967296) (hl : ∀ x ∈ l, x < 256) (hll : l.length ≤ 1000000) :
    FactTrue P tabs β (.read f.upd [ca, .osl 0 s] r) := by
  refine ⟨hr.1, fun w vs β' hle hw hargs => ?_⟩
  match vs, hargs with
  | [x, y], h =>
    obtain ⟨h1, h2, _⟩ := h
    have h1 : ArgAt β' w ca x := h1
    unfold ArgAt at h1
    rw [hn] at h1
    have e1 : x = nat .u32 c := by rw [h1.2, (WF.mono hle _ hc.1).2, hc.2]
    have h2 : WF β' s ∧ ∃ t b o cap, conc β' s = .string t ∧ y = .slice (some ⟨b, o, none⟩) t.size cap ∧ t.size ≤ cap ∧ ∀ i (c : UInt8), t.data[i]? = some c → w.cell? ⟨b, o + i, none⟩ = some (.int .u8 c.toNat) := h2
    obtain ⟨_, t, b, o, cap, g1, g2, g3, g4⟩ := h2
    have e2 : t = str l := by
      rw [(WF.mono hle _ hs.1).2, hs.2] at g1
      cases g1; rfl
    subst e2
    rw [text_size] at g2 g3
    rw [e1, g2, hr.2]
    refine hd.upd c l b o cap w hlt hl g3 hll hw fun i x hx => ?_
    have hb := hl x (List.mem_of_getElem? hx)
    have := g4 i (UInt8.ofNat x) (by show (l.map UInt8.ofNat).toArray[i]? = _; simp [hx])
    rw [this]
    show some (Value.int .u8 ((UInt8.ofNat x).toNat : Nat)) = some (Value.int .u8 (x : Nat))
    congr 2
    simp
    omega
  | [], h => exact h.elim
  | [_], h => exact h.2.elim
  | _ :: _ :: _ :: _, h => exact h.2.2.elim

theorem bothF_true {f : Fns} (hd : Does P tabs f) {a b : Nat} (ha : a < 65536) (hb : b < 65536) : ∀ g ∈ bothF f (cls a) (cls b) (decide (9000 < (all a b).length)), FactTrue P tabs (baseMap (sigma a b)) g := by
  have V : ∀ id x, 60 ≤ id → id < 300 → symOf a b id = x → Val (baseMap (sigma a b)) (S id) x := fun id x h1 h2 h => val_sym a b h1 h2 h
  have pa := p1_bounds a
  have pb := p1_bounds b
  have al := all_length a b
  have ca := c1_length a
  have cb := c1_length b
  have la := lenL_le a
  have lb := lenL_le b
  have ga := grp_len (lenL a)
  have gb := grp_len (lenL b)
  have gca := grp_len (c1 a).length
  have gcb := grp_len (c1 b).length
  have pla := p1_length a
  have plb := p1_length b
  have hbl : bank.length = 7 := rfl
  have ne : ∀ {l : List Nat}, 0 < l.length → l ≠ [] := fun h e => by rw [e] at h; cases h
  have t1 : ∀ g ∈ textF f 60 100 (cls a) true, FactTrue P tabs (baseMap (sigma a b)) g := by
    refine textF_true (n := a) (first := true) ha (V 60 _ (by decide) (by decide) rfl) (fun o x ho hx => V (100 + o) x (by omega) (by omega) ?_) (hd.rep _ (Nat.mod_lt _ (by decide))) (hd.while_ _ (Nat.mod_lt _ (by decide)))
    unfold symOf
    rw [if_neg (by omega), if_neg (by omega), if_pos (by omega), show 100 + o - 100 = o from by omega]
    exact hx
  have t2 : ∀ g ∈ textF f 61 180 (cls b) false, FactTrue P tabs (baseMap (sigma a b)) g := by
    refine textF_true (n := b) (first := false) hb (V 61 _ (by decide) (by decide) rfl) (fun o x ho hx => V (180 + o) x (by omega) (by omega) ?_) (hd.rep _ (Nat.mod_lt _ (by decide))) (hd.while_ _ (Nat.mod_lt _ (by decide)))
    unfold symOf
    rw [if_neg (by omega), if_neg (by omega), if_neg (by omega), if_pos (by omega), show 180 + o - 180 = o from by omega]
    exact hx
  have V264 := V 264 (text (all a b)) (by decide) (by decide) rfl
  have V265 := V 265 (nat .i64 (all a b).length) (by decide) (by decide) rfl
  have V260 := V 260 (text (bank ++ p1 a)) (by decide) (by decide) rfl
  have V262 := V 262 (text (bank ++ p1 a ++ grp (c1 b).length)) (by decide) (by decide) rfl
  have V266 := V 266 (text (bank ++ p1 a)) (by decide) (by decide) rfl
  have V268 := V 268 (text (all a b)) (by decide) (by decide) rfl
  have V149 := V 149 (text (bank ++ grp (c1 a).length)) (by decide) (by decide) rfl
  have V229 := V 229 (text (grp (c1 b).length)) (by decide) (by decide) rfl
  have V139 := V 139 (text (c1 a)) (by decide) (by decide) rfl
  have V219 := V 219 (text (c1 b)) (by decide) (by decide) rfl
  have V125 := V 125 (text (p1 a)) (by decide) (by decide) rfl
  have V205 := V 205 (text (p1 b)) (by decide) (by decide) rfl
  have e260 : bank ++ p1 a = (bank ++ grp (c1 a).length) ++ c1 a := by rw [p1, List.append_assoc]
  have e264 : all a b = (bank ++ p1 a ++ grp (c1 b).length) ++ c1 b := by
    unfold all
    rw [show p1 b = grp (c1 b).length ++ c1 b from rfl, ← List.append_assoc]
  have l260 : (bank ++ p1 a).length = 7 + (p1 a).length := by rw [List.length_append]; rfl
  have l262 : (bank ++ p1 a ++ grp (c1 b).length).length = 7 + (p1 a).length + (grp (c1 b).length).length := by rw [List.length_append, l260]
  have w : ∀ g ∈ fW, FactTrue P tabs (baseMap (sigma a b)) g :=
    all_app (all_app (all_app (all_app (all_app (all_cons (f_cat V149 V139 (by rw [← e260]; exact V260) (by rw [List.length_append]; omega)) all_nil) (f_str V260 (V 261 _ (by decide) (by decide) rfl) (ne (by omega)) (by omega)))
      (all_cons (f_cat V260 V229 V262 (by omega)) all_nil)) (f_str V262 (V 263 _ (by decide) (by decide) rfl) (ne (by omega)) (by omega)))
      (all_cons (f_cat V262 V219 (by rw [← e264]; exact V264) (by omega)) all_nil)) (f_str V264 V265 (ne (by omega)) (by omega))
  have r : ∀ g ∈ fR, FactTrue P tabs (baseMap (sigma a b)) g :=
    all_app (all_app (all_app (all_cons (f_cat (l := bank) (val_str bank (by decide)) V125 V266 (by omega)) all_nil) (f_str V266 (V 267 _ (by decide) (by decide) rfl) (ne (by omega)) (by omega)))
      (all_cons (f_cat V266 V205 V268 (by omega)) all_nil)) (f_str V268 (V 269 _ (by decide) (by decide) rfl) (ne (by omega)) (by omega))
  have big : ∀ g ∈ fBig (decide (9000 < (all a b).length)), FactTrue P tabs (baseMap (sigma a b)) g := all_cons (f_gtr (V 269 (nat .i64 (all a b).length) (by decide) (by decide) rfl) rfl) (all_cons (f_gtr V265 rfl) all_nil)
  have hw32 : (all a b).length < half .u32 := Nat.lt_of_le_of_lt (show (all a b).length ≤ 100000 by omega) (by decide)
  have V270 := V 270 (nat .u32 (all a b).length) (by decide) (by decide) rfl
  have V272 := V 272 (nat .u32 ((all a b).length / 256)) (by decide) (by decide) rfl
  have V274 := V 274 (nat .u32 ((all a b).length / 65536)) (by decide) (by decide) rfl
  have V276 := V 276 (nat .u32 ((all a b).length / 16777216)) (by decide) (by decide) rfl
  have V271 := V 271 (nat .u8 ((all a b).length % 256)) (by decide) (by decide) rfl
  have V273 := V 273 (nat .u8 ((all a b).length / 256 % 256)) (by decide) (by decide) rfl
  have V275 := V 275 (nat .u8 ((all a b).length / 65536 % 256)) (by decide) (by decide) rfl
  have V277 := V 277 (nat .u8 ((all a b).length / 16777216 % 256)) (by decide) (by decide) rfl
  have V278 := V 278 (text (len4 (all a b).length)) (by decide) (by decide) rfl
  have V279 := V 279 (nat .u32 (crc0 a b)) (by decide) (by decide) rfl
  have V280 := V 280 (nat .u32 (crc1 a b)) (by decide) (by decide) rfl
  have V281 := V 281 (nat .u8 (crc1 a b % 256)) (by decide) (by decide) rfl
  have V282 := V 282 (nat .u32 (crc1 a b / 256)) (by decide) (by decide) rfl
  have V283 := V 283 (nat .u8 (crc1 a b / 256 % 256)) (by decide) (by decide) rfl
  have V284 := V 284 (nat .u32 (crc1 a b / 65536)) (by decide) (by decide) rfl
  have V285 := V 285 (nat .u8 (crc1 a b / 65536 % 256)) (by decide) (by decide) rfl
  have V286 := V 286 (nat .u32 (crc1 a b / 16777216)) (by decide) (by decide) rfl
  have V287 := V 287 (nat .u8 (crc1 a b / 16777216 % 256)) (by decide) (by decide) rfl
  have V288 := V 288 (text (len4 (all a b).length ++ len4 (crc1 a b))) (by decide) (by decide) rfl
  have V289 := V 289 (text (frame a b)) (by decide) (by decide) rfl
  have l4 : ∀ n, (len4 n).length = 4 := fun _ => rfl
  have lfr : (frame a b).length = 8 + (all a b).length := by unfold frame; rw [List.length_append, List.length_append, l4, l4]
  have x : ∀ g ∈ fX f, FactTrue P tabs (baseMap (sigma a b)) g := by
    refine all_app (all_cons (f_conv hw32 V265 V270) (all_cons (f_low V270 V271) (all_cons (f_shr (n := 8) (by decide) V270 V272) (all_cons (f_low V272 V273) (all_cons (f_shr (n := 16) (by decide) V270 V274) (all_cons (f_low V274 V275) (all_cons (f_shr (n := 24) (by decide) V270 V276) (all_cons (f_low V276 V277)
      (all_cons (f_pack (bs := len4 (all a b).length) ⟨V271, V273, V275, V277, trivial⟩ (len4_ok _) V278) (all_cons (read_fact hd (val_int .u32 0) rfl V278 V279 (by decide) (len4_ok _) (by rw [l4]; decide)) (all_cons (read_fact hd V279 rfl V264 V280 (crcUpd_lt _ _) (all_ok a b) (by omega))
      (all_cons (f_low V280 V281) (all_cons (f_shr (n := 8) (by decide) V280 V282) (all_cons (f_low V282 V283) (all_cons (f_shr (n := 16) (by decide) V280 V284) (all_cons (f_low V284 V285) (all_cons (f_shr (n := 24) (by decide) V280 V286) (all_cons (f_low V286 V287)
      (all_cons (f_pack (bs := len4 (all a b).length ++ len4 (crc1 a b)) ⟨V271, V273, V275, V277, V281, V283, V285, V287, trivial⟩ ?_ V288) (all_cons (f_cat V288 V264 V289 (by rw [List.length_append, l4, l4]; omega)) all_nil)))))))))))))))))))) (f_str V289 (V 290 _ (by decide) (by decide) rfl) (ne (by omega)) (by omega))
    intro y hy
    rcases List.mem_append.1 hy with hy | hy
    · exact len4_ok _ y hy
    · exact len4_ok _ y hy
  exact all_app (all_app (all_app (all_app (all_app t1 t2) w) r) big) x
end
end Go.AEv
