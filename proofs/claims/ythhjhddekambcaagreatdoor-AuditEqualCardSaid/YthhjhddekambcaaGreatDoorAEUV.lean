/- Which records are equal: two records are compared, as the call answers. Conditions: their lists lie in memory. -/
import Derived.Test.YthhjhddekambcaaGreatDoorAE9A
import Derived.Test.YthhjhddekambcaaGreatDoorAE9B
import Derived.Test.YthhjhddekambcaaGreatDoorAEW
import Derived.Test.YthhjhddekambcaaGreatDoorAES
/- Which records are equal: two records are compared, as the call answers. Conditions: their lists lie in memory. -/
namespace Go.AEv
open Go.Proofs
set_option linter.unusedSectionVars false

/-! ### Two lists -/
theorem grown_drew (w : World) (q : Nat) : Grown w (w.drewN q) := ⟨fun _ _ => rfl, Nat.le_refl _, rfl, rfl, rfl⟩
theorem cells_of {w : World} {s : ByteArray} {k : IntKind} {b o : Nat} {arr : Array Value} {t : TypeId} {fz : Nat × Nat} (hrow : w.heap[b]? = some (.cells arr t fz)) (hc : ∀ (i : Nat) (c : UInt8), s.data[i]? = some c → arr[o + i]? = some (.int k c.toNat)) :
    ∀ j, j < (sbytes s).length → w.cell? ⟨b, o + j, none⟩ = some (.int k ((sbytes s).getD j 0 : Nat)) := by
  intro j hj
  rw [sbytes_len] at hj
  have hd : s.data[j]? = some s.data[j] := Array.getElem?_eq_getElem hj
  rw [@cell_of unk0 w b (o + j) arr t fz hrow, hc j _ hd, List.getD_eq_getElem?_getD, sbytes_get, hd]
  rfl
theorem small_len {s : ByteArray} (h : Small s) : 0 < s.size ∧ s.size ≤ 64 := by
  refine ⟨h.1, ?_⟩
  rcases h.2 with h | h
  · omega
  · rw [h]; decide
theorem nums_equal {o1 o2 : Option ByteArray} (h1 : SmallO o1) (h2 : SmallO o2) {v1 v2 : Value} {w : World} (a1 : AtS w v1 o1) (a2 : AtS w v2 o2) :
    Calls Tryz.prog 90 #[v1, v2] w fun e w2 => e = .returned (.bool (decide (listOf o1 = listOf o2))) ∧ Grown w w2 := by
  have ne : ∀ {s : ByteArray}, Small s → sbytes s ≠ [] := fun h e => by
    have := (small_len h).1
    rw [← sbytes_len, e] at this
    cases this
  cases o1 with
  | none =>
    cases a1
    cases o2 with
    | none =>
      cases a2
      exact (YthhjhddekambcaaGreatDoor.nil90 w).mono fun e w2 hx => by obtain ⟨rfl, q, rfl⟩ := hx; exact ⟨by simp [listOf], grown_drew w q⟩
    | some s =>
      obtain ⟨x, arr, fz, k⟩ := a2
      have hs := small_len (h2 s rfl)
      rw [k.is]
      exact (YthhjhddekambcaaGreatDoor.lens90 none _ 0 0 s.size x.2.2 w (by omega)).mono fun e w2 hx => by
        obtain ⟨rfl, q, rfl⟩ := hx
        refine ⟨?_, grown_drew w q⟩
        rw [decide_eq_false]
        exact fun e => ne (h2 s rfl) e.symm
  | some s =>
    obtain ⟨x, arr, fz, k⟩ := a1
    have hs := small_len (h1 s rfl)
    rw [k.is]
    cases o2 with
    | none =>
      cases a2
      exact (YthhjhddekambcaaGreatDoor.lens90 _ none s.size x.2.2 0 0 w (by omega)).mono fun e w2 hx => by
        obtain ⟨rfl, q, rfl⟩ := hx
        refine ⟨?_, grown_drew w q⟩
        rw [decide_eq_false]
        exact fun e => ne (h1 s rfl) e
    | some t =>
      obtain ⟨y, arr', fz', k'⟩ := a2
      have ht := small_len (h2 t rfl)
      rw [k'.is, ← sbytes_len s, ← sbytes_len t]
      exact (YthhjhddekambcaaGreatDoor.eq90 (sbytes s) (sbytes t) x.1 x.2.1 x.2.2 y.1 y.2.1 y.2.2 w (by rw [sbytes_len]; omega) (by rw [sbytes_len]; omega) (cells_of k.row k.cell) (cells_of k'.row k'.cell)).mono fun e w2 hx => by
        obtain ⟨rfl, q, rfl⟩ := hx
        exact ⟨rfl, grown_drew w q⟩

/-! ### Two records -/
noncomputable def RecS.same (R S : RecS) (i : Nat) : Bool :=
  match i with
  | 0 => R.number == S.number | 1 => R.version == S.version | 2 => decide (R.tenant = S.tenant) | 3 => R.session == S.session | 4 => decide (R.action = S.action) | 5 => decide (R.path = S.path) | 6 => R.day == S.day | 7 => R.granted == S.granted | 8 => R.user == S.user
  | 9 => decide (listOf R.up = listOf S.up) | 10 => decide (listOf R.down = listOf S.down) | 11 => decide (R.does = S.does) | 12 => decide (R.at_ = S.at_) | 13 => R.deep == S.deep | _ => true
theorem first_false (p : Nat → Bool) : ∀ n, ∃ j, j ≤ n ∧ (∀ i, i < j → p i = true) ∧ (j < n → p j = false)
  | 0 => ⟨0, Nat.le_refl _, fun _ h => (Nat.not_lt_zero _ h).elim, fun h => (Nat.lt_irrefl _ h).elim⟩
  | n + 1 => by
    obtain ⟨j, h1, h2, h3⟩ := first_false p n
    by_cases hj : j < n
    · exact ⟨j, by omega, h2, fun _ => h3 hj⟩
    · have : j = n := by omega
      subst this
      cases hp : p j with
      | true => exact ⟨j + 1, Nat.le_refl _, fun i hi => by rcases Nat.lt_or_ge i j with h | h; exact h2 i h; rw [show i = j by omega]; exact hp, fun h => absurd h (by omega)⟩
      | false => exact ⟨j, by omega, h2, fun _ => hp⟩
@[reducible] def unk4 (x1 x2 x3 x4 : Nat × Nat × Nat) (s1 s2 s3 s4 : ByteArray) : Unk where
  val _ := .int .u8 0
  plain _ := rfl
  place g := if g = 60 then x1 else if g = 61 then x2 else if g = 62 then x3 else if g = 63 then x4 else if g = 70 then strCode s1 else if g = 71 then strCode s2 else if g = 72 then strCode s3 else if g = 73 then strCode s4 else (g, 0, 0)
  glob g hg := by rw [if_neg (by omega), if_neg (by omega), if_neg (by omega), if_neg (by omega), if_neg (by omega), if_neg (by omega), if_neg (by omega), if_neg (by omega)]
def RecS.at (r : RecS) (i : Nat) : Value :=
  match i with
  | 0 => .int .i64 r.number | 1 => .int .i64 r.version | 2 => .string r.tenant | 3 => .int .i64 r.session | 4 => .string r.action | 5 => .string r.path | 6 => .int .i64 r.day | 7 => .bool r.granted | 8 => .int .i64 r.user
  | 9 => .string r.does | 10 => .string r.at_ | _ => .bool r.deep
theorem RecS.kept (r : RecS) (i : Nat) : isKept (r.at i) = true := by
  unfold RecS.at
  split <;> rfl
def eqVal (R S : RecS) (id : Nat) : Value := if id < 120 then R.at (id - 100) else S.at (id - 120)
theorem nat4 (p : Nat → Nat → Nat → Nat → Bool) (h : ∀ n m k l : Bool, p n.toNat m.toNat k.toNat l.toNat = true) {o1 o2 o3 o4 : Option ByteArray} : p (cnt o1) (cnt o2) (cnt o3) (cnt o4) = true := by
  have e : ∀ o : Option ByteArray, cnt o = o.isSome.toNat := fun o => by cases o <;> rfl
  rw [e o1, e o2, e o3, e o4]
  exact h _ _ _ _
theorem eqAll {o1 o2 o3 o4 : Option ByteArray} : chkEqs (cnt o1) (cnt o2) (cnt o3) (cnt o4) = true :=
  nat4 chkEqs fun n m k l => by
    cases n <;> cases m <;> cases k <;> cases l
    · exact eq0000
    · exact eq0001
    · exact eq0010
    · exact eq0011
    · exact eq0100
    · exact eq0101
    · exact eq0110
    · exact eq0111
    · exact eq1000
    · exact eq1001
    · exact eq1010
    · exact eq1011
    · exact eq1100
    · exact eq1101
    · exact eq1110
    · exact eq1111
theorem eqRec_conc [Unk] {val : Nat → Value} {R : RecS} {s b q : Nat} {n m : Nat} {v1 v2 : Value} (hs : 100 ≤ s) (hs2 : s + 12 ≤ 300) (hv : ∀ i, i < 12 → val (s + i) = R.at i) (g1 : WF (Bm val) (osl1b b q n)) (e1 : conc (Bm val) (osl1b b q n) = v1) (g2 : WF (Bm val) (osl1b (Nat.add b 1) (Nat.add q 1) m)) (e2 : conc (Bm val) (osl1b (Nat.add b 1) (Nat.add q 1) m) = v2) :
    WF (Bm val) (eqRec s b q n m) ∧ conc (Bm val) (eqRec s b q n m) = .agg (R.l1 ++ v1 :: v2 :: R.l2).toArray := by
  have c : ∀ i, i < 12 → conc (Bm val) (.sym (Nat.add s i)) = R.at i := fun i hi => sym_at (show 100 ≤ s + i by omega) (show s + i < 300 by omega) (hv i hi) (R.kept i)
  have wf : ∀ i, i < 12 → WF (Bm val) (.sym (Nat.add s i)) := fun i hi => sym_wf (show s + i < 300 by omega)
  refine ⟨⟨wf 0 (by decide), wf 1 (by decide), wf 2 (by decide), wf 3 (by decide), wf 4 (by decide), wf 5 (by decide), wf 6 (by decide), wf 7 (by decide), wf 8 (by decide), g1, g2, wf 9 (by decide), wf 10 (by decide), wf 11 (by decide), trivial⟩, ?_⟩
  unfold eqRec
  rw [conc_agg]
  have c0 : conc (Bm val) (.sym s) = R.at 0 := c 0 (by decide)
  simp only [concs]
  rw [c0, c 1 (by decide), c 2 (by decide), c 3 (by decide), c 4 (by decide), c 5 (by decide), c 6 (by decide), c 7 (by decide), c 8 (by decide), e1, e2, c 9 (by decide), c 10 (by decide), c 11 (by decide)]
  rfl

theorem equal_call (R S : RecS) (hR1 : SmallO R.up) (hR2 : SmallO R.down) (hS1 : SmallO S.up) (hS2 : SmallO S.down) {v1 v2 u1 u2 : Value} {w : World} (h1 : AtS w v1 R.up) (h2 : AtS w v2 R.down) (h3 : AtS w u1 S.up) (h4 : AtS w u2 S.down) :
    Calls Tryz.prog 16 #[.agg (R.l1 ++ v1 :: v2 :: R.l2).toArray, .agg (S.l1 ++ u1 :: u2 :: S.l2).toArray] w fun e w2 => Grown w w2 ∧ ∃ b : Bool, e = .returned (.bool b) ∧ (b = true ↔ ∀ i, i < 14 → R.same S i = true) := by
  obtain ⟨x1, s1, k1⟩ := slot_of h1
  obtain ⟨x2, s2, k2⟩ := slot_of h2
  obtain ⟨x3, s3, k3⟩ := slot_of h3
  obtain ⟨x4, s4, k4⟩ := slot_of h4
  letI := unk4 x1 x2 x3 x4 s1 s2 s3 s4
  let val := eqVal R S
  obtain ⟨j, hj, hlow, hat⟩ := first_false (R.same S) 14
  have hchk := allN_ok (eqAll (o1 := R.up) (o2 := R.down) (o3 := S.up) (o4 := S.down)) j (List.mem_range.2 (by omega))
  have hskip : eqSkip j (cnt R.up) (cnt R.down) (cnt S.up) (cnt S.down) = false := by
    unfold eqSkip
    rw [ifB_eq]
    split
    · rename_i h
      have : j = 9 := Nat.eq_of_beq_eq_true h
      subst this
      have h := hat (by decide)
      cases ho : R.up <;> cases hp : S.up <;> first | rfl | (simp [RecS.same, ho, hp] at h)
    · cases h10 : Nat.beq j 10 with
      | false => rfl
      | true =>
        have : j = 10 := Nat.eq_of_beq_eq_true h10
        subst this
        have h := hat (by decide)
        cases ho : R.down <;> cases hp : S.down <;> first | rfl | (simp [RecS.same, ho, hp] at h)
  rw [hskip] at hchk
  replace hchk : eqRun j (cnt R.up) (cnt R.down) (cnt S.up) (cnt S.down) = true := hchk
  unfold eqRun at hchk
  rw [band_eq, Bool.and_eq_true] at hchk
  obtain ⟨hcl, hchk⟩ := hchk
  have hsame : ∀ i, i < 14 → i ≤ j → Nat.blt i j = R.same S i := by
    intro i hi hij
    rcases Nat.lt_or_ge i j with h | h
    · rw [hlow i h]; exact Nat.blt_eq.mpr h
    · have : i = j := by omega
      subst this
      rw [hat hi]
      cases hb : Nat.blt i i with
      | false => rfl
      | true => exact absurd (Nat.blt_eq.mp hb) (Nat.lt_irrefl _)
  have q1 := fun w' => slot_at (w' := w') k1 (β := Bm val) (fun g hg => sig_low hg) (b := 60) (q := 70) (by decide) rfl rfl
  have back1 : ∀ w', TabsIn Tryz.prog (eqT (cnt R.up) (cnt R.down) (cnt S.up) (cnt S.down)) w' → AtS w' v1 R.up := by
    rintro w' ⟨β, e1, e2⟩
    exact slot_at k1 e1 (b := 60) (q := 70) (by decide) rfl rfl fun p hp => e2 p (List.mem_append_left _ (List.mem_append_left _ hp))
  have back2 : ∀ w', TabsIn Tryz.prog (eqT (cnt R.up) (cnt R.down) (cnt S.up) (cnt S.down)) w' → AtS w' v2 R.down := by
    rintro w' ⟨β, e1, e2⟩
    exact slot_at k2 e1 (b := 61) (q := 71) (by decide) rfl rfl fun p hp => e2 p (List.mem_append_left _ (List.mem_append_right _ hp))
  have back3 : ∀ w', TabsIn Tryz.prog (eqT (cnt R.up) (cnt R.down) (cnt S.up) (cnt S.down)) w' → AtS w' u1 S.up := by
    rintro w' ⟨β, e1, e2⟩
    exact slot_at k3 e1 (b := 62) (q := 72) (by decide) rfl rfl fun p hp => e2 p (List.mem_append_right _ (List.mem_append_left _ hp))
  have back4 : ∀ w', TabsIn Tryz.prog (eqT (cnt R.up) (cnt R.down) (cnt S.up) (cnt S.down)) w' → AtS w' u2 S.down := by
    rintro w' ⟨β, e1, e2⟩
    exact slot_at k4 e1 (b := 63) (q := 73) (by decide) rfl rfl fun p hp => e2 p (List.mem_append_right _ (List.mem_append_right _ hp))
  obtain ⟨g1, e1⟩ := slot_val (val := val) k1 (b := 60) (q := 70) (by decide) (by decide) rfl rfl
  obtain ⟨g2, e2⟩ := slot_val (val := val) k2 (b := 61) (q := 71) (by decide) (by decide) rfl rfl
  obtain ⟨g3, e3⟩ := slot_val (val := val) k3 (b := 62) (q := 72) (by decide) (by decide) rfl rfl
  obtain ⟨g4, e4⟩ := slot_val (val := val) k4 (b := 63) (q := 73) (by decide) (by decide) rfl rfl
  have cb : ∀ b : Bool, conc (Bm val) (boolV b) = .bool b := fun b => by cases b <;> rfl
  have wb : ∀ b : Bool, WF (Bm val) (boolV b) := fun b => by cases b <;> exact trivial
  have hf : FactsOk (EnvT (eqF j (cnt R.up) (cnt R.down) (cnt S.up) (cnt S.down)) (eqT (cnt R.up) (cnt R.down) (cnt S.up) (cnt S.down))) (Bm val) := by
    intro f hf
    have hf : f ∈ eqF j (cnt R.up) (cnt R.down) (cnt S.up) (cnt S.down) := hf
    unfold eqF at hf
    rcases List.mem_append.1 hf with hf | hf
    · rcases List.mem_append.1 hf with hf | hf
      · unfold eqUp at hf
        rw [ifB_eq] at hf
        split at hf
        · rename_i h9
          rw [List.mem_singleton] at hf
          subst hf
          have h9 := Nat.ble_eq.mp h9
          refine ⟨⟨g1, g3, trivial⟩, wb _, fun w' hw' => ?_⟩
          simp only [concs]
          rw [e1, e3, cb, hsame 9 (by decide) h9]
          exact nums_equal hR1 hS1 (back1 w' hw') (back3 w' hw')
        · cases hf
      · unfold eqDown at hf
        rw [ifB_eq] at hf
        split at hf
        · rename_i h9
          rw [List.mem_singleton] at hf
          subst hf
          have h9 := Nat.ble_eq.mp h9
          refine ⟨⟨g2, g4, trivial⟩, wb _, fun w' hw' => ?_⟩
          simp only [concs]
          rw [e2, e4, cb, hsame 10 (by decide) h9]
          exact nums_equal hR2 hS2 (back2 w' hw') (back4 w' hw')
        · cases hf
    · obtain ⟨x, hx, hf⟩ := List.mem_flatMap.1 hf
      unfold eqOne at hf
      rw [ifB_eq] at hf
      split at hf
      · rename_i hle
        rw [List.mem_singleton] at hf
        subst hf
        have hle := Nat.ble_eq.mp hle
        have ca : ∀ i, i < 12 → conc (Bm val) (.sym (Nat.add 100 i)) = R.at i := fun i hi => sym_at (show 100 ≤ 100 + i by omega) (show 100 + i < 300 by omega) (by show eqVal R S (100 + i) = _; unfold eqVal; rw [if_pos (by omega), Nat.add_sub_cancel_left]) (R.kept i)
        have cb : ∀ i, i < 12 → conc (Bm val) (.sym (Nat.add 120 i)) = S.at i := fun i hi => sym_at (show 100 ≤ 120 + i by omega) (show 120 + i < 300 by omega) (by show eqVal R S (120 + i) = _; unfold eqVal; rw [if_neg (by omega), Nat.add_sub_cancel_left]) (S.kept i)
        have wa : ∀ i, i < 12 → WF (Bm val) (.sym (Nat.add 100 i)) := fun i hi => sym_wf (show 100 + i < 300 by omega)
        have wb : ∀ i, i < 12 → WF (Bm val) (.sym (Nat.add 120 i)) := fun i hi => sym_wf (show 120 + i < 300 by omega)
        unfold eqFields at hx
        simp only [List.mem_cons, List.mem_nil_iff, or_false] at hx
        rcases hx with rfl | rfl | rfl | rfl | rfl | rfl | rfl | rfl | rfl | rfl | rfl | rfl
        · exact f_eqI (wa 0 (by decide)) (wb 0 (by decide)) (ca 0 (by decide)) (cb 0 (by decide)) (hsame 0 (by decide) hle)
        · exact f_eqI (wa 1 (by decide)) (wb 1 (by decide)) (ca 1 (by decide)) (cb 1 (by decide)) (hsame 1 (by decide) hle)
        · exact f_eqS (wa 2 (by decide)) (wb 2 (by decide)) (ca 2 (by decide)) (cb 2 (by decide)) (hsame 2 (by decide) hle)
        · exact f_eqI (wa 3 (by decide)) (wb 3 (by decide)) (ca 3 (by decide)) (cb 3 (by decide)) (hsame 3 (by decide) hle)
        · exact f_eqS (wa 4 (by decide)) (wb 4 (by decide)) (ca 4 (by decide)) (cb 4 (by decide)) (hsame 4 (by decide) hle)
        · exact f_eqS (wa 5 (by decide)) (wb 5 (by decide)) (ca 5 (by decide)) (cb 5 (by decide)) (hsame 5 (by decide) hle)
        · exact f_eqI (wa 6 (by decide)) (wb 6 (by decide)) (ca 6 (by decide)) (cb 6 (by decide)) (hsame 6 (by decide) hle)
        · exact f_eqB (wa 7 (by decide)) (wb 7 (by decide)) (ca 7 (by decide)) (cb 7 (by decide)) (hsame 7 (by decide) hle)
        · exact f_eqI (wa 8 (by decide)) (wb 8 (by decide)) (ca 8 (by decide)) (cb 8 (by decide)) (hsame 8 (by decide) hle)
        · exact f_eqS (wa 9 (by decide)) (wb 9 (by decide)) (ca 9 (by decide)) (cb 9 (by decide)) (hsame 11 (by decide) hle)
        · exact f_eqS (wa 10 (by decide)) (wb 10 (by decide)) (ca 10 (by decide)) (cb 10 (by decide)) (hsame 12 (by decide) hle)
        · exact f_eqB (wa 11 (by decide)) (wb 11 (by decide)) (ca 11 (by decide)) (cb 11 (by decide)) (hsame 13 (by decide) hle)
      · cases hf
  have ht : TabsIn Tryz.prog (eqT (cnt R.up) (cnt R.down) (cnt S.up) (cnt S.down)) w := by
    refine ⟨fun id => some (Unk.place id), fun _ _ => rfl, fun p hp => ?_⟩
    rcases List.mem_append.1 hp with hp | hp
    · rcases List.mem_append.1 hp with hp | hp
      · exact slot_row k1 (fun _ _ => rfl) (b := 60) (q := 70) (by decide) rfl rfl p hp
      · exact slot_row k2 (fun _ _ => rfl) (b := 61) (q := 71) (by decide) rfl rfl p hp
    · rcases List.mem_append.1 hp with hp | hp
      · exact slot_row k3 (fun _ _ => rfl) (b := 62) (q := 72) (by decide) rfl rfl p hp
      · exact slot_row k4 (fun _ _ => rfl) (b := 63) (q := 73) (by decide) rfl rfl p hp
  obtain ⟨r1, r2⟩ := eqRec_conc (val := val) (R := R) (s := 100) (by decide) (by decide) (fun i hi => by show eqVal R S (100 + i) = _; unfold eqVal; rw [if_pos (by omega), Nat.add_sub_cancel_left]) g1 e1 g2 e2
  obtain ⟨r3, r4⟩ := eqRec_conc (val := val) (R := S) (s := 120) (by decide) (by decide) (fun i hi => by show eqVal R S (120 + i) = _; unfold eqVal; rw [if_neg (by omega), Nat.add_sub_cancel_left]) g3 e3 g4 e4
  have := calls_of_chk (E := EnvT (eqF j (cnt R.up) (cnt R.down) (cnt S.up) (cnt S.down)) (eqT (cnt R.up) (cnt R.down) (cnt S.up) (cnt S.down))) (fitT _ _) (by decide) sig_lt hf hcl hchk (show WFs (Bm val) [_, _] from ⟨r1, r3, trivial⟩) (w := w) ht
  have ea : concs (Bm val) [eqRec 100 60 70 (cnt R.up) (cnt R.down), eqRec 120 62 72 (cnt S.up) (cnt S.down)] = [.agg (R.l1 ++ v1 :: v2 :: R.l2).toArray, .agg (S.l1 ++ u1 :: u2 :: S.l2).toArray] := by
    rw [concs, concs, concs, r2, r4]
  replace this : Calls Tryz.prog 16 (concs (Bm val) [eqRec 100 60 70 (cnt R.up) (cnt R.down), eqRec 120 62 72 (cnt S.up) (cnt S.down)]).toArray w _ := this
  rw [ea] at this
  refine this.mono fun e w2 hx => ⟨hx.1, Nat.beq j 14, ?_, ?_⟩
  · rw [hx.2.1]
    exact congrArg Ending.returned (cb _)
  · constructor
    · intro h i hi
      have : j = 14 := Nat.eq_of_beq_eq_true h
      exact hlow i (by omega)
    · intro h
      rcases Nat.lt_or_ge j 14 with hj' | hj'
      · rw [h j hj'] at hat
        exact absurd (hat hj') (by decide)
      · have : j = 14 := by omega
        subst this
        rfl
end Go.AEv
/- Which records are equal: records whose bytes are equal are equal, and the other way round. Conditions: their numbers are not negative. -/
namespace Go.AEv
open Go.Proofs
open Go.AuditPlain (put putInt putBytes putFlag numbers zig hi hi_step hi_zero)
set_option linter.unusedSectionVars false

/-! ### Bytes are below 256 -/
theorem hi_lt : ∀ (v : Nat), ∀ b ∈ hi v, b < 256 := by
  intro v
  induction v using Nat.strongRecOn with
  | _ v ih =>
    intro b hb
    by_cases h : v = 0
    · subst h; rw [hi_zero] at hb; cases hb
    · rw [hi_step h] at hb
      rcases List.mem_append.1 hb with hb | hb
      · exact ih (v / 128) (Nat.div_lt_self (by omega) (by decide)) b hb
      · rw [List.mem_singleton] at hb; omega
theorem put_lt (v : Nat) : ∀ b ∈ put v, b < 256 := by
  intro b hb
  unfold put at hb
  rcases List.mem_append.1 hb with hb | hb
  · exact hi_lt _ b hb
  · rw [List.mem_singleton] at hb; omega
theorem putBytes_lt (s : ByteArray) : ∀ b ∈ putBytes (sbytes s), b < 256 := by
  intro b hb
  unfold putBytes at hb
  rcases List.mem_append.1 hb with hb | hb
  · exact put_lt _ b hb
  · exact @sbytes_lt unk0 s b hb
theorem putFlag_lt (c : Bool) : ∀ b ∈ putFlag c, b < 256 := by
  intro b hb
  cases c <;> (rw [show putFlag _ = [_] from rfl, List.mem_singleton] at hb; omega)
theorem numbers_lt (l : List Nat) : ∀ b ∈ numbers l, b < 256 := by
  intro b hb
  unfold numbers at hb
  rcases List.mem_append.1 hb with hb | hb
  · exact put_lt _ b hb
  · obtain ⟨a, _, h⟩ := List.mem_flatMap.1 hb
    exact put_lt a b h
theorem RecS.bytes_lt (R : RecS) : ∀ b ∈ R.toRec.bytes, b < 256 := by
  intro b hb
  rw [R.bytes_eq] at hb
  rcases List.mem_append.1 hb with hb | hb
  · exact put_lt _ b hb
  · obtain ⟨l, hl, hb⟩ := List.mem_flatten.1 hb
    unfold RecS.parts at hl
    simp only [List.mem_cons, List.mem_nil_iff, or_false] at hl
    rcases hl with rfl | rfl | rfl | rfl | rfl | rfl | rfl | rfl | rfl | rfl | rfl | rfl | rfl
    · exact put_lt _ b hb
    · exact putBytes_lt _ b hb
    · exact put_lt _ b hb
    · exact putBytes_lt _ b hb
    · exact putBytes_lt _ b hb
    · exact put_lt _ b hb
    · exact putFlag_lt _ b hb
    · exact put_lt _ b hb
    · exact numbers_lt _ b hb
    · exact numbers_lt _ b hb
    · exact putBytes_lt _ b hb
    · exact putBytes_lt _ b hb
    · exact putFlag_lt _ b hb
theorem RecS.bytes_len {R : RecS} (hR : R.Plain) : R.toRec.bytes.length ≤ 3000 := by
  have hnum := hR.number
  have h1 : R.first.length ≤ 3 := (put_len (v := R.number.toNat) (by omega)).1
  have h2 : R.parts.flatten.length ≤ 200 * R.parts.length := flat_len R.parts fun b hb => (parts_len hR b hb).1
  have h3 : R.parts.length = 13 := rfl
  rw [R.bytes_eq, List.length_append]
  omega

/-! ### Equal records, equal bytes -/
theorem sbytes_inj {s t : ByteArray} (h : sbytes s = sbytes t) : s = t := by rw [← @sbytes_str unk0 s, h, @sbytes_str unk0]
theorem bytes_same {R S : RecS} (hR : R.Plain) (hS : S.Plain) : sbytes (str R.toRec.bytes) = sbytes (str S.toRec.bytes) ↔ ∀ i, i < 14 → R.same S i = true := by
  have hn := hR.number; have hv := hR.ver; have hs := hR.ses; have hd := hR.day; have hu := hR.user
  have hn' := hS.number; have hv' := hS.ver; have hs' := hS.ses; have hd' := hS.day; have hu' := hS.user
  constructor
  · intro h
    have h := AuditPlain.Rec.bytes_inj (@str_inj unk0 _ _ R.bytes_lt S.bytes_lt (sbytes_inj h))
    unfold RecS.toRec at h
    injection h with e0 e1 e2 e3 e4 e5 e6 e7 e8 e9 e10 e11 e12 e13
    intro i hi
    match i, hi with
    | 0, _ => exact beq_iff_eq.2 (by omega)
    | 1, _ => exact beq_iff_eq.2 (by omega)
    | 2, _ => exact decide_eq_true (sbytes_inj e2)
    | 3, _ => exact beq_iff_eq.2 e3
    | 4, _ => exact decide_eq_true (sbytes_inj e4)
    | 5, _ => exact decide_eq_true (sbytes_inj e5)
    | 6, _ => exact beq_iff_eq.2 (by omega)
    | 7, _ => exact beq_iff_eq.2 e7
    | 8, _ => exact beq_iff_eq.2 (by omega)
    | 9, _ => exact decide_eq_true e9
    | 10, _ => exact decide_eq_true e10
    | 11, _ => exact decide_eq_true (sbytes_inj e11)
    | 12, _ => exact decide_eq_true (sbytes_inj e12)
    | 13, _ => exact beq_iff_eq.2 e13
    | i + 14, h => omega
  · intro h
    have e0 : R.number = S.number := beq_iff_eq.1 (h 0 (by decide))
    have e1 : R.version = S.version := beq_iff_eq.1 (h 1 (by decide))
    have e2 : R.tenant = S.tenant := of_decide_eq_true (h 2 (by decide))
    have e3 : R.session = S.session := beq_iff_eq.1 (h 3 (by decide))
    have e4 : R.action = S.action := of_decide_eq_true (h 4 (by decide))
    have e5 : R.path = S.path := of_decide_eq_true (h 5 (by decide))
    have e6 : R.day = S.day := beq_iff_eq.1 (h 6 (by decide))
    have e7 : R.granted = S.granted := beq_iff_eq.1 (h 7 (by decide))
    have e8 : R.user = S.user := beq_iff_eq.1 (h 8 (by decide))
    have e9 : listOf R.up = listOf S.up := of_decide_eq_true (h 9 (by decide))
    have e10 : listOf R.down = listOf S.down := of_decide_eq_true (h 10 (by decide))
    have e11 : R.does = S.does := of_decide_eq_true (h 11 (by decide))
    have e12 : R.at_ = S.at_ := of_decide_eq_true (h 12 (by decide))
    have e13 : R.deep = S.deep := beq_iff_eq.1 (h 13 (by decide))
    have : R.toRec = S.toRec := by unfold RecS.toRec; rw [e0, e1, e2, e3, e4, e5, e6, e7, e8, e9, e10, e11, e12, e13]
    rw [this]
theorem same_self (R : RecS) : ∀ i, i < 14 → R.same R i = true := by
  intro i hi
  unfold RecS.same
  split <;> simp
end Go.AEv
