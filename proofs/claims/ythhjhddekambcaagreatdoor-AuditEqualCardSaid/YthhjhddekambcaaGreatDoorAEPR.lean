/- Which records are equal: the bytes of numbers, texts and flags, as their calls give them. Conditions: the numbers are below 2097152, the texts no longer than 20 bytes. -/
import Derived.Test.YthhjhddekambcaaGreatDoorAEC
import Derived.Test.YthhjhddekambcaaGreatDoorAE8
import Derived.Test.YthhjhddekambcaaGreatDoorAEP
import Derived.Test.YthhjhddekambcaaGreatDoorAEDH
/- Which records are equal: the bytes of numbers, texts and flags, as their calls give them. Conditions: the numbers are below 2097152, the texts no longer than 20 bytes. -/
namespace Go.AEv
open Go.Proofs
open Go.AuditPlain (put putInt putBytes putFlag numbers putAll zig hi hi_step hi_zero)
set_option linter.unusedSectionVars false

/-! ### New rows of bytes, out of runs -/
section
variable [Unk] {val : Nat → Value}
theorem okText_ok {q : Nat} {v : AVal} {H : Heap} (h : okText q v H = true) : ∃ b, v = .osl b (.sym q) ∧ 300 ≤ b ∧ H.blk.get b = some (.text 5 (.sym q)) := by
  cases v <;> simp only [okText] at h <;> first | (cases h; done) | skip
  rename_i b s
  simp only [band_eq, Bool.and_eq_true, nble_eq, decide_eq_true_eq] at h
  obtain ⟨h1, h2, h3⟩ := h
  have := vbeq_eq _ _ h2
  subst this
  cases hb : H.blk.get b with
  | none => rw [hb] at h3; cases h3
  | some k =>
    rw [hb, obind_some] at h3
    cases hk : asText k with
    | none => rw [hk] at h3; cases h3
    | some p =>
      rw [hk, obind_some] at h3
      simp only [Bool.and_eq_true, nbeq_eq, beq_iff_eq] at h3
      have := asText_eq hk
      subst this
      have h4 := vbeq_eq _ _ h3.2
      exact ⟨b, rfl, h1, by rw [hb, h3.1, h4]⟩
theorem run_text {E : Env} (_ : E.P = Tryz.prog) (hF : Fit E) (hfacts : FactsOk E (Bm val)) (hcl : closedTabs E.tabs = true) {f : FuncId} {args : List AVal} {q : Nat} {s : ByteArray} (hchk : chkRun E f args (okText q) = true) (h1 : 100 ≤ q) (h2 : q < 300) (hq : val q = .string s)
    (hargs : WFs (Bm val) args) {w : World} (ht : TabsIn E.P E.tabs w) : Calls E.P f (concs (Bm val) args).toArray w fun e w2 => Grown w w2 ∧ ∃ u b, e = .returned u ∧ NewS Tryz.prog .u8 5 w w2 s u b := by
  obtain ⟨v, H', hr, hk⟩ := chkRun_ok hchk
  obtain ⟨b, rfl, h3, h4⟩ := okText_ok hk
  refine (calls_of_run hF (by decide) sig_lt hfacts hcl hr hargs ht).mono fun e w2 hx => ?_
  obtain ⟨hg, γ, rfl, a1, a2, a3, a4⟩ := hx
  obtain ⟨x, hx⟩ := Option.isSome_iff_exists.1 a1.1
  obtain ⟨arr, fz, c1, c2⟩ := a3.blk b _ x h4 hx
  have e1 : γ.blk b = x.1 := by simp [Inj.blk, hx]
  have e2 : γ.sh b = x.2.1 := by simp [Inj.sh, hx]
  have e3 : γ.ext b = x.2.2 := by simp [Inj.ext, hx]
  have ec : conc γ (.sym q) = .string s := by
    have : conc γ (.sym q) = conc (Bm val) (.sym q) := by simp only [conc, a2 q h2]
    rw [this]
    exact sym_at h1 h2 hq rfl
  refine ⟨hg, _, x.1, rfl, x, arr, fz, rfl, ?_, a4 b x h3 hx, c1, ?_, c2.size, fun i c hc => c2.cell i c (by rw [ec]; exact hc), c2.thaw, size5⟩
  · rw [conc, ec]
    simp [sOf, Inj.addr, e1, e2, e3]
  · obtain ⟨s', hs', hle⟩ := c2.is
    rw [ec] at hs'
    cases hs'
    exact hle
theorem okBytes_ok {l : List AVal} {v : AVal} {H : Heap} (h : okBytes l v H = true) : ∃ b cp ex r, v = .slice b 0 l.length cp ex ∧ 300 ≤ b ∧ H.row b = some r ∧ r.t = 5 ∧ cp ≤ r.n ∧ l.length ≤ cp ∧ Tr.gets l.length r.c 0 = some l := by
  cases v <;> simp only [okBytes] at h <;> first | (cases h; done) | skip
  rename_i b o n cp ex
  simp only [band_eq, Bool.and_eq_true, nbeq_eq, beq_iff_eq, nble_eq, decide_eq_true_eq, lenA0] at h
  obtain ⟨rfl, h2, rfl, h3⟩ := h
  cases hr : H.row b with
  | none => rw [hr] at h3; cases h3
  | some r =>
    rw [hr, obind_some] at h3
    simp only [Bool.and_eq_true, beq_iff_eq, decide_eq_true_eq] at h3
    obtain ⟨h4, h5, h6, h7⟩ := h3
    cases hg : Tr.gets l.length r.c 0 with
    | none => rw [hg] at h7; cases h7
    | some cs =>
      rw [hg, obind_some] at h7
      have := vsbeq_eq _ _ h7
      subst this
      exact ⟨b, cp, ex, r, rfl, h2, hr, h4, h5, h6, hg⟩
theorem run_bytes {E : Env} (hP : E.P = Tryz.prog) (hF : Fit E) (hfacts : FactsOk E (Bm val)) (hcl : closedTabs E.tabs = true) {f : FuncId} {args l : List AVal} {s : ByteArray} (hchk : chkRun E f args (okBytes l) = true) (hl : ∀ u ∈ l, lowV 300 u = true) (hw : WFs (Bm val) l)
    (hs : concs (Bm val) l = s.data.toList.map fun b => Value.int .u8 b.toNat) (hargs : WFs (Bm val) args) {w : World} (ht : TabsIn E.P E.tabs w) : Calls E.P f (concs (Bm val) args).toArray w fun e w2 => Grown w w2 ∧ ∃ u b, e = .returned u ∧ NewS Tryz.prog .u8 5 w w2 s u b := by
  obtain ⟨v, H', hr, hk⟩ := chkRun_ok hchk
  obtain ⟨b, cp, ex, r, rfl, h3, h4, h5, h6, h7, h8⟩ := okBytes_ok hk
  refine (calls_of_run hF (by decide) sig_lt hfacts hcl hr hargs ht).mono fun e w2 hx => ?_
  obtain ⟨hg, γ, rfl, a1, a2, a3, a4⟩ := hx
  refine ⟨hg, _, γ.blk b, rfl, ?_⟩
  have hsp := Tr.gets_spec _ _ _ _ h8
  have hlen : l.length = s.size := by
    have := congrArg List.length hs
    rw [concs_eq, List.length_map, List.length_map] at this
    exact this
  rw [hP] at a3
  have := newSl_cells (w := w) (ex := ex) (s := s) (k := .u8) a3 h4 a1.1 (fun x hx => a4 b x h3 hx) (by rw [h5]; exact size5) h6 hlen h7 (fun i c hc => by
    have hi : i < l.length := by
      rw [hlen]
      exact (Array.getElem?_eq_some_iff.1 hc).1
    have hu := List.getElem?_eq_getElem hi
    refine ⟨l[i], ?_, ?_⟩
    · have := hsp.2 i hi
      rw [Nat.zero_add] at this
      rw [this]; exact hu
    · have h9 := low_concs a2 hl hw
      rw [hs, concs_eq] at h9
      have h10 := congrArg (fun x : List Value => x[i]?) h9
      simp only [List.getElem?_map, hu, Array.getElem?_toList, hc, Option.map_some, Option.some.injEq] at h10
      exact h10)
  rw [h5] at this
  exact this
end

/-! ### Numbers -/
theorem wrap8 {n : Int} (h1 : 0 ≤ n) (h2 : n < 256) : IntKind.u8.wrap n = n := by
  unfold IntKind.wrap
  simp only [IntKind.signed, IntKind.bits, Bool.false_and]
  show n % 256 = n
  omega
def putVal (v : Nat) (id : Nat) : Value :=
  match id with
  | 100 => .int .u64 (v : Nat) | 101 => .int .u64 (v % 128 : Nat) | 102 => .int .u8 (v % 128 : Nat) | 103 => .int .u64 (v / 128 : Nat) | 104 => .int .u64 (v / 128 % 128 : Nat) | 105 => .int .u8 (v / 128 % 128 : Nat) | 106 => .int .u8 (v / 128 % 128 + 128 : Nat)
  | 107 => .int .u64 (v / 128 / 128 : Nat) | 108 => .int .u64 (v / 128 / 128 % 128 : Nat) | 109 => .int .u8 (v / 128 / 128 % 128 : Nat) | 110 => .int .u8 (v / 128 / 128 % 128 + 128 : Nat) | _ => .int .u8 0
section
variable [Unk] {val : Nat → Value} {tabs : List (Nat × ABlk)}
theorem quo_sym {a r m : Nat} (h1 : 100 ≤ a) (h2 : a < 300) (h3 : 100 ≤ r) (h4 : r < 300) (e1 : val a = .int .u64 (m : Nat)) (hm : m < 18446744073709551616) (e2 : val r = .int .u64 (m / 128 : Nat)) : FactTrue Tryz.prog tabs (Bm val) (.bin .quo (.sym a) (u64c 128) (.sym r)) := by
  refine f_bin (k := .u64) (j := .u64) (m := (m : Nat)) (n := (128 : Nat)) (sym_wf h2) trivial (sym_wf h4) (sym_at h1 h2 e1 rfl) rfl (v := mkInt .u64 (awrap .u64 (itdiv (m : Nat) (128 : Nat)))) rfl ?_
  rw [mkInt_eq, awrap_eq, itdiv_eq, sym_at h3 h4 e2 rfl]
  have : ((m : Nat) : Int).tdiv ((128 : Nat) : Int) = ((m / 128 : Nat) : Int) := rfl
  rw [this, wrapU (by omega) (by omega)]
  rfl
theorem rem64 {a r m : Nat} (h1 : 100 ≤ a) (h2 : a < 300) (h3 : 100 ≤ r) (h4 : r < 300) (e1 : val a = .int .u64 (m : Nat)) (e2 : val r = .int .u64 (m % 128 : Nat)) : FactTrue Tryz.prog tabs (Bm val) (.bin .rem (.sym a) (u64c 128) (.sym r)) := rem_sym h1 h2 h3 h4 e1 (by decide) e2
theorem conv8 {a r n : Nat} (h1 : 100 ≤ a) (h2 : a < 300) (h3 : 100 ≤ r) (h4 : r < 300) (e1 : val a = .int .u64 (n : Nat)) (e2 : val r = .int .u8 (n : Nat)) (hn : n < 256) : FactTrue Tryz.prog tabs (Bm val) (.conv .u8 (.sym a) (.sym r)) :=
  f_conv (sym_wf h2) (sym_wf h4) (sym_at h1 h2 e1 rfl) (sym_at h3 h4 e2 rfl) (wrap8 (by omega) (by omega))
theorem add8 {a r n : Nat} (h1 : 100 ≤ a) (h2 : a < 300) (h3 : 100 ≤ r) (h4 : r < 300) (e1 : val a = .int .u8 (n : Nat)) (e2 : val r = .int .u8 (n + 128 : Nat)) (hn : n < 128) : FactTrue Tryz.prog tabs (Bm val) (.bin .add (.sym a) (u8c 128) (.sym r)) := by
  refine f_bin (k := .u8) (j := .u8) (m := (n : Nat)) (n := (128 : Nat)) (sym_wf h2) trivial (sym_wf h4) (sym_at h1 h2 e1 rfl) rfl (v := mkInt .u8 (awrap .u8 (iadd (n : Nat) (128 : Nat)))) rfl ?_
  rw [mkInt_eq, awrap_eq, iadd_eq, wrap8 (by omega) (by omega), sym_at h3 h4 e2 rfl]
  rfl
theorem geq64 {id n c : Nat} (h1 : 100 ≤ id) (h2 : id < 300) (e : val id = .int .u64 (n : Nat)) {b : Bool} {v : AVal} (hv : v = boolV b) (hb : b = decide (c ≤ n)) : FactTrue Tryz.prog tabs (Bm val) (.bin .geq (.sym id) (u64c c) v) := by
  subst hv
  refine f_bin (k := .u64) (j := .u64) (m := (n : Nat)) (n := (c : Nat)) (sym_wf h2) trivial (by unfold boolV; rw [ifB_eq]; split <;> trivial) (sym_at h1 h2 e rfl) rfl (v := mkBool (bnot (ilt (n : Nat) (c : Nat)))) rfl ?_
  rw [bnot_eq, ilt_eq, hb]
  unfold mkBool boolV
  by_cases h : c ≤ n
  · rw [decide_eq_true h, decide_eq_false (by omega)]; rfl
  · rw [decide_eq_false h, decide_eq_true (by omega)]; rfl
end
theorem put_call {v : Nat} (hv : v < 2097152) (w : World) : Calls Tryz.prog 28 #[.int .u64 (v : Nat)] w fun e w2 => Grown w w2 ∧ ∃ u b, e = .returned u ∧ NewS Tryz.prog .u8 5 w w2 (str (put v)) u b := by
  letI := unk0
  let val := putVal v
  have hk : ∀ c, (Nat.ble 2 c = decide (128 ≤ v)) → (Nat.ble 3 c = decide (128 ≤ v / 128)) → FactsOk (EN (putF c)) (Bm val) := by
    intro c c1 c2 f hf
    have hf : f ∈ putF c := hf
    unfold putF at hf
    simp only [List.mem_cons, List.mem_nil_iff, or_false] at hf
    rcases hf with rfl | rfl | rfl | rfl | rfl | rfl | rfl | rfl | rfl | rfl | rfl | rfl | rfl
    · exact rem64 (by decide) (by decide) (by decide) (by decide) (show val 100 = .int .u64 (v : Nat) from rfl) rfl
    · exact conv8 (by decide) (by decide) (by decide) (by decide) (show val 101 = .int .u64 (v % 128 : Nat) from rfl) rfl (by omega)
    · exact geq64 (by decide) (by decide) (show val 100 = .int .u64 (v : Nat) from rfl) rfl c1
    · exact quo_sym (by decide) (by decide) (by decide) (by decide) (show val 100 = .int .u64 (v : Nat) from rfl) (by omega) rfl
    · exact rem64 (by decide) (by decide) (by decide) (by decide) (show val 103 = .int .u64 (v / 128 : Nat) from rfl) rfl
    · exact conv8 (by decide) (by decide) (by decide) (by decide) (show val 104 = .int .u64 (v / 128 % 128 : Nat) from rfl) rfl (by omega)
    · exact add8 (by decide) (by decide) (by decide) (by decide) (show val 105 = .int .u8 (v / 128 % 128 : Nat) from rfl) rfl (by omega)
    · exact geq64 (by decide) (by decide) (show val 103 = .int .u64 (v / 128 : Nat) from rfl) rfl c2
    · exact quo_sym (by decide) (by decide) (by decide) (by decide) (show val 103 = .int .u64 (v / 128 : Nat) from rfl) (by omega) rfl
    · exact rem64 (by decide) (by decide) (by decide) (by decide) (show val 107 = .int .u64 (v / 128 / 128 : Nat) from rfl) rfl
    · exact conv8 (by decide) (by decide) (by decide) (by decide) (show val 108 = .int .u64 (v / 128 / 128 % 128 : Nat) from rfl) rfl (by omega)
    · exact add8 (by decide) (by decide) (by decide) (by decide) (show val 109 = .int .u8 (v / 128 / 128 % 128 : Nat) from rfl) rfl (by omega)
    · exact geq64 (b := false) (by decide) (by decide) (show val 107 = .int .u64 (v / 128 / 128 : Nat) from rfl) rfl ((decide_eq_false (by omega)).symm)
  have low : ∀ c, ∀ u ∈ putL c, lowV 300 u = true := by
    intro c u hu
    match c with
    | 0 => cases hu
    | 1 =>
      have hu : u ∈ [AVal.sym 102] := hu
      rw [List.mem_singleton.1 hu]; rfl
    | 2 =>
      have hu : u ∈ [AVal.sym 106, .sym 102] := hu
      simp only [List.mem_cons, List.mem_nil_iff, or_false] at hu
      rcases hu with rfl | rfl <;> rfl
    | c + 3 =>
      have hu : u ∈ [AVal.sym 110, .sym 106, .sym 102] := hu
      simp only [List.mem_cons, List.mem_nil_iff, or_false] at hu
      rcases hu with rfl | rfl | rfl <;> rfl
  have s102 : conc (Bm val) (.sym 102) = .int .u8 (v % 128 : Nat) := sym_at (by decide) (by decide) rfl rfl
  have s106 : conc (Bm val) (.sym 106) = .int .u8 (v / 128 % 128 + 128 : Nat) := sym_at (by decide) (by decide) rfl rfl
  have s110 : conc (Bm val) (.sym 110) = .int .u8 (v / 128 / 128 % 128 + 128 : Nat) := sym_at (by decide) (by decide) rfl rfl
  have ea : (concs (Bm val) [.sym 100]).toArray = #[.int .u64 (v : Nat)] := by
    simp only [concs]
    rw [sym_at (by decide) (by decide) (show val 100 = .int .u64 (v : Nat) from rfl) rfl]
  have toN : ∀ m : Nat, m < 256 → Value.int .u8 ((UInt8.ofNat m).toNat : Nat) = .int .u8 (m : Nat) := fun m hm => by rw [UInt8.toNat_ofNat', Nat.mod_eq_of_lt hm]
  have key : ∀ c, (Nat.ble 2 c = decide (128 ≤ v)) → (Nat.ble 3 c = decide (128 ≤ v / 128)) → chkPut c = true → WFs (Bm val) (putL c) → concs (Bm val) (putL c) = (str (put v)).data.toList.map (fun b => Value.int .u8 b.toNat) →
      Calls Tryz.prog 28 #[.int .u64 (v : Nat)] w fun e w2 => Grown w w2 ∧ ∃ u b, e = .returned u ∧ NewS Tryz.prog .u8 5 w w2 (str (put v)) u b := by
    intro c c1 c2 h hw hs
    have := run_bytes (E := EN (putF c)) (w := w) rfl (fitT _ _) (hk c c1 c2) rfl h (low c) hw hs ⟨sym_wf (by decide), trivial⟩ tabs_nil
    rw [ea] at this
    exact this
  by_cases h1 : v < 128
  · refine key 1 ((decide_eq_false (by omega)).symm) ((decide_eq_false (by omega)).symm) put1 ⟨sym_wf (by decide), trivial⟩ ?_
    have e : put v = [v % 128] := by
      unfold put
      rw [show v / 128 = 0 by omega, hi_zero]
      rfl
    rw [e]
    show [conc (Bm val) (.sym 102)] = [Value.int .u8 ((UInt8.ofNat (v % 128)).toNat : Nat)]
    rw [s102, toN _ (by omega)]
  · by_cases h2 : v / 128 < 128
    · refine key 2 ((decide_eq_true (by omega)).symm) ((decide_eq_false (by omega)).symm) put2 ⟨sym_wf (by decide), sym_wf (by decide), trivial⟩ ?_
      have e : put v = [v / 128 % 128 + 128, v % 128] := by
        unfold put
        rw [hi_step (v := v / 128) (by omega), show v / 128 / 128 = 0 by omega, hi_zero]
        rfl
      rw [e]
      show [conc (Bm val) (.sym 106), conc (Bm val) (.sym 102)] = [Value.int .u8 ((UInt8.ofNat (v / 128 % 128 + 128)).toNat : Nat), Value.int .u8 ((UInt8.ofNat (v % 128)).toNat : Nat)]
      rw [s102, s106, toN _ (by omega), toN _ (by omega)]
    · refine key 3 ((decide_eq_true (by omega)).symm) ((decide_eq_true (by omega)).symm) put3 ⟨sym_wf (by decide), sym_wf (by decide), sym_wf (by decide), trivial⟩ ?_
      have e : put v = [v / 128 / 128 % 128 + 128, v / 128 % 128 + 128, v % 128] := by
        unfold put
        rw [hi_step (v := v / 128) (by omega), hi_step (v := v / 128 / 128) (by omega), show v / 128 / 128 / 128 = 0 by omega, hi_zero]
        rfl
      rw [e]
      show [conc (Bm val) (.sym 110), conc (Bm val) (.sym 106), conc (Bm val) (.sym 102)] = [Value.int .u8 ((UInt8.ofNat (v / 128 / 128 % 128 + 128)).toNat : Nat), Value.int .u8 ((UInt8.ofNat (v / 128 % 128 + 128)).toNat : Nat), Value.int .u8 ((UInt8.ofNat (v % 128)).toNat : Nat)]
      rw [s102, s106, s110, toN _ (by omega), toN _ (by omega), toN _ (by omega)]
end Go.AEv
/- Which records are equal: the bytes of a record, as the call gives them. Conditions: its numbers are in their bounds, its texts short, its lists lie in memory. -/
namespace Go.AEv
open Go.Proofs
open Go.AuditPlain (put putInt putBytes putFlag numbers zig hi hi_step hi_zero)
set_option linter.unusedSectionVars false

/-! ### Lists of ints in memory -/
structure SlAt (w : World) (s : ByteArray) (v : Value) (x : Nat × Nat × Nat) (arr : Array Value) (fz : Nat × Nat) : Prop where
  is : v = .slice (some ⟨x.1, x.2.1, none⟩) s.size x.2.2
  row : w.heap[x.1]? = some (.cells arr 3 fz)
  cap : s.size ≤ x.2.2
  size : x.2.1 + x.2.2 ≤ arr.size
  cell : ∀ (i : Nat) (b : UInt8), s.data[i]? = some b → arr[x.2.1 + i]? = some (.int .i64 b.toNat)
  thaw : ∀ i, i < arr.size → ¬ (fz.1 ≤ i ∧ i < fz.2)
def AtS (w : World) (v : Value) : Option ByteArray → Prop
  | none => v = .slice none 0 0
  | some s => ∃ x arr fz, SlAt w s v x arr fz
theorem SlAt.text {w : World} {s : ByteArray} {v : Value} {x : Nat × Nat × Nat} {arr : Array Value} {fz : Nat × Nat} (h : SlAt w s v x arr fz) [Unk] {γ : Inj} {q : AVal} (hq : WF γ q) (hs : conc γ q = .string s) : TextRel Tryz.prog γ .i64 3 q x.2.1 x.2.2 arr fz :=
  ⟨hq, ⟨s, hs, h.cap⟩, h.size, fun i b hb => h.cell i b (by rw [hs] at hb; exact hb), h.thaw, size3⟩
theorem put_len {v : Nat} (h : v < 2097152) : (put v).length ≤ 3 ∧ 0 < (put v).length := by
  unfold put
  rw [List.length_append]
  refine ⟨?_, by simp⟩
  have : (hi (v / 128)).length ≤ 2 := by
    by_cases h1 : v / 128 = 0
    · rw [h1, hi_zero]; simp
    · rw [hi_step h1]
      by_cases h2 : v / 128 / 128 = 0
      · rw [h2, hi_zero]; simp
      · rw [hi_step h2, show v / 128 / 128 / 128 = 0 by omega, hi_zero]; simp
  simp only [List.length_cons, List.length_nil]
  omega
theorem put_one {v : Nat} (h : v < 128) : put v = [v] := by
  unfold put
  rw [show v / 128 = 0 by omega, hi_zero, Nat.mod_eq_of_lt h]
  rfl

/-! ### Facts about texts -/
section
variable [Unk] {val : Nat → Value} {tabs : List (Nat × ABlk)}
theorem text_true {f : FuncId} {args : List AVal} {q : Nat} {s : ByteArray} {vs : Array Value} (h1 : 100 ≤ q) (h2 : q < 300) (hq : val q = .string s) (ha : WFs (Bm val) args) (ea : (concs (Bm val) args).toArray = vs)
    (hc : ∀ w, TabsIn Tryz.prog tabs w → Calls Tryz.prog f vs w fun e w2 => Grown w w2 ∧ ∃ u b, e = .returned u ∧ NewS Tryz.prog .u8 5 w w2 s u b) : FactTrue Tryz.prog tabs (Bm val) (textF f args q) :=
  make_text ha h2 (sym_wf h2) (sym_at h1 h2 hq rfl) (fun w hw => by rw [ea]; exact hc w hw)
theorem some_true {q : Nat} {s : ByteArray} (h1 : 100 ≤ q) (h2 : q < 300) (hq : val q = .string s) (hs : 0 < s.size) : FactTrue Tryz.prog tabs (Bm val) (someF q) := by
  refine f_eqS (sym_wf h2) (by intro b hb; cases hb) (sym_at h1 h2 hq rfl) rfl ?_
  symm
  rw [decide_eq_false_iff_not]
  intro h
  rw [h] at hs
  cases hs
theorem cat_true {a b : AVal} {r n : Nat} {s t : List Nat} (wa : WF (Bm val) a) (wb : WF (Bm val) b) (ha : conc (Bm val) a = .string (str s)) (hb : conc (Bm val) b = .string (str t)) (h1 : 100 ≤ r) (h2 : r < 300) (hr : val r = .string (str (s ++ t))) (h3 : 100 ≤ n) (h4 : n < 300)
    (hn : val n = .int .i64 ((s ++ t).length : Nat)) (hl : (s ++ t).length ≤ 1000000) : ∀ f ∈ catF a b r n, FactTrue Tryz.prog tabs (Bm val) f := by
  intro f hf
  unfold catF at hf
  simp only [List.mem_cons, List.mem_nil_iff, or_false] at hf
  have hl' : s.length + t.length ≤ 1000000 := by rw [← List.length_append]; exact hl
  rcases hf with rfl | rfl | rfl
  · exact f_cat wa wb (sym_wf h2) ha hb (by rw [sym_at h1 h2 hr rfl, str_append]) (by rw [str_size, str_size]; omega)
  · exact f_len (sym_wf h2) (sym_wf h4) (sym_at h1 h2 hr rfl) (by rw [sym_at h3 h4 hn rfl, str_size])
  · exact f_gtr (sym_wf h4) (sym_at h3 h4 hn rfl) (by omega)
end

/-! ### A text -/
noncomputable def strVal (s : ByteArray) (id : Nat) : Value :=
  match id with
  | 100 => .string s | 101 => .int .i64 (s.size : Nat) | 102 => .int .u64 (s.size : Nat) | 103 => .string (str (put s.size)) | 104 => .string (str (put s.size ++ sbytes s)) | 105 => .int .i64 ((put s.size ++ sbytes s).length : Nat) | _ => .int .u8 0
theorem sbytes_len (s : ByteArray) : (sbytes s).length = s.size := by
  unfold sbytes
  rw [mapA_eq, List.length_map]
  rfl
theorem str_call' {s : ByteArray} (hs : s.size ≤ 20) (w : World) : Calls Tryz.prog 29 #[.string s] w fun e w2 => Grown w w2 ∧ ∃ u b, e = .returned u ∧ NewS Tryz.prog .u8 5 w w2 (str (putBytes (sbytes s))) u b := by
  letI := unk0
  have hpb : putBytes (sbytes s) = put s.size ++ sbytes s := by unfold putBytes; rw [sbytes_len]
  by_cases h0 : s.size = 0
  · have e0 : sbytes s = [] := List.eq_nil_of_length_eq_zero (by rw [sbytes_len]; exact h0)
    have es : s = str [] := by rw [← sbytes_str s, e0]
    rw [hpb, h0, e0, put_one (by decide), es]
    have := run_bytes (val := strVal s) (E := EN []) (s := str [0]) (w := w) rfl (fitT _ _) (fun f hf => by cases hf) rfl str0 (fun u hu => by rw [List.mem_singleton.1 hu]; rfl) ⟨trivial, trivial⟩ rfl ⟨(by intro b hb; cases hb), trivial⟩ tabs_nil
    exact this
  · let val := strVal s
    have hl : (put s.size ++ sbytes s).length ≤ 1000000 := by
      rw [List.length_append, sbytes_len]
      have := (put_len (v := s.size) (by omega)).1
      omega
    have hf : FactsOk (EN strF) (Bm val) := by
      intro f hf
      have hf : f ∈ strF := hf
      unfold strF at hf
      rcases List.mem_append.1 hf with hf | hf
      · simp only [List.mem_cons, List.mem_nil_iff, or_false] at hf
        rcases hf with rfl | rfl | rfl | rfl
        · exact f_len (sym_wf (by decide)) (sym_wf (by decide)) (sym_at (by decide) (by decide) (show val 100 = .string s from rfl) rfl) (sym_at (by decide) (by decide) rfl rfl)
        · exact f_conv (sym_wf (by decide)) (sym_wf (by decide)) (sym_at (by decide) (by decide) (show val 101 = .int .i64 (s.size : Nat) from rfl) rfl) (sym_at (by decide) (by decide) (show val 102 = .int .u64 (s.size : Nat) from rfl) rfl) (wrapU (by omega) (by omega))
        · exact text_true (by decide) (by decide) (show val 103 = .string (str (put s.size)) from rfl) ⟨sym_wf (by decide), trivial⟩ (by simp only [concs]; rw [sym_at (by decide) (by decide) (show val 102 = .int .u64 (s.size : Nat) from rfl) rfl]) (fun w _ => put_call (by omega) w)
        · exact some_true (by decide) (by decide) (show val 100 = .string s from rfl) (by omega)
      · exact cat_true (sym_wf (by decide)) (sym_wf (by decide)) (sym_at (by decide) (by decide) (show val 103 = .string (str (put s.size)) from rfl) rfl) (by rw [sym_at (by decide) (by decide) (show val 100 = .string s from rfl) rfl, sbytes_str]) (by decide) (by decide) rfl (by decide) (by decide) rfl hl f hf
    have := run_text (val := val) (E := EN strF) (w := w) rfl (fitT _ _) hf rfl strB (by decide) (by decide) (show val 104 = .string (str (put s.size ++ sbytes s)) from rfl) ⟨sym_wf (by decide), trivial⟩ tabs_nil
    rw [hpb]
    have ea : (concs (Bm val) [.sym 100]).toArray = #[.string s] := by
      simp only [concs]
      rw [sym_at (by decide) (by decide) (show val 100 = .string s from rfl) rfl]
    rw [ea] at this
    exact this

/-! ### A number with a sign, a flag -/
theorem putInt_call {n : Nat} (hn : n < 6) (w : World) : Calls Tryz.prog 30 #[.int .i64 (n : Nat)] w fun e w2 => Grown w w2 ∧ ∃ u b, e = .returned u ∧ NewS Tryz.prog .u8 5 w w2 (str (putInt (n : Nat))) u b := by
  letI := unk0
  have hc := allN_ok putInt1 n (rng_mem (Nat.zero_le _) (by omega))
  have e : putInt (n : Nat) = [2 * n] := by
    unfold putInt zig
    rw [if_pos (by omega)]
    exact put_one (by omega)
  rw [e]
  refine run_bytes (val := fun _ => .int .u8 0) (E := EN []) (w := w) rfl (fitT _ _) (fun f hf => by cases hf) rfl hc (fun u hu => by rw [List.mem_singleton.1 hu]; rfl) ⟨trivial, trivial⟩ ?_ ⟨trivial, trivial⟩ tabs_nil
  show [Value.int .u8 ((2 * n : Nat) : Int)] = [Value.int .u8 ((UInt8.ofNat (2 * n)).toNat : Nat)]
  rw [UInt8.toNat_ofNat', Nat.mod_eq_of_lt (by omega)]
theorem flag_call (b : Bool) (w : World) : Calls Tryz.prog 31 #[.bool b] w fun e w2 => Grown w w2 ∧ ∃ u c, e = .returned u ∧ NewS Tryz.prog .u8 5 w w2 (str (putFlag b)) u c := by
  letI := unk0
  cases b
  · exact run_bytes (val := fun _ => .int .u8 0) (E := EN []) (w := w) rfl (fitT _ _) (fun f hf => by cases hf) rfl flagF (fun u hu => by rw [List.mem_singleton.1 hu]; rfl) ⟨trivial, trivial⟩ rfl ⟨trivial, trivial⟩ tabs_nil
  · exact run_bytes (val := fun _ => .int .u8 0) (E := EN []) (w := w) rfl (fitT _ _) (fun f hf => by cases hf) rfl flagT (fun u hu => by rw [List.mem_singleton.1 hu]; rfl) ⟨trivial, trivial⟩ rfl ⟨trivial, trivial⟩ tabs_nil

/-! ### A list of numbers -/
noncomputable def listOf : Option ByteArray → List Nat
  | none => []
  | some s => sbytes s
def i64At (l : List Nat) (i : Nat) : Nat × Nat × Nat := (3, (l[i]?).getD 0 + 1, 0)
theorem symVal_i64 [Unk] (l : List Nat) (i : Nat) : symVal (i64At l i) = .int .i64 ((l[i]?).getD 0 : Nat) := by simp [i64At, symVal, kOf]
@[reducible] def unkN (x : Nat × Nat × Nat) (n : Nat) (l : List Nat) : Unk where
  val _ := .int .u8 0
  plain _ := rfl
  place g := if g = 60 then (x.1, x.2.1, x.2.2 - n) else if 72 ≤ g ∧ g < 77 then i64At l (g - 72) else (g, 0, 0)
  glob g hg := by rw [if_neg (by omega), if_neg (by omega)]
def numsVal (l : List Nat) (id : Nat) : Value :=
  if 110 ≤ id ∧ id < 115 then .int .u64 ((l[id - 110]?).getD 0 : Nat)
  else if 120 ≤ id ∧ id < 125 then .string (str (put ((l[id - 120]?).getD 0)))
  else if 130 ≤ id ∧ id < 135 then .string (str (put l.length ++ AuditPlain.putAll (l.take (id - 129))))
  else if 140 ≤ id ∧ id < 145 then .int .i64 ((put l.length ++ AuditPlain.putAll (l.take (id - 139))).length : Nat)
  else .int .u8 0
theorem putAll_len : ∀ (l : List Nat), (∀ a ∈ l, a < 2097152) → (AuditPlain.putAll l).length ≤ 3 * l.length
  | [], _ => Nat.le_refl _
  | a :: l, h => by
    have h1 := (put_len (h a List.mem_cons_self)).1
    have h2 := putAll_len l fun b hb => h b (List.mem_cons_of_mem _ hb)
    unfold AuditPlain.putAll at h2 ⊢
    rw [List.flatMap_cons, List.length_append, List.length_cons]
    omega
end Go.AEv
/- Which records are equal: the bytes of a list of numbers, and of a record, as the calls give them. Conditions: the numbers are in their bounds, the texts short, the lists lie in memory. -/
namespace Go.AEv
open Go.Proofs
open Go.AuditPlain (put putInt putBytes putFlag numbers zig hi hi_step hi_zero)
set_option linter.unusedSectionVars false

theorem numsAll {k : Nat} (h1 : 1 ≤ k) (h2 : k ≤ 5) : chkNums k = true := by
  have : k = 1 ∨ k = 2 ∨ k = 3 ∨ k = 4 ∨ k = 5 := by omega
  rcases this with rfl | rfl | rfl | rfl | rfl
  · exact nums1
  · exact nums2
  · exact nums3
  · exact nums4
  · exact nums5
theorem sbytes_get (s : ByteArray) (i : Nat) : (sbytes s)[i]? = (s.data[i]?).map UInt8.toNat := by
  unfold sbytes
  rw [mapA_eq, List.getElem?_map, Array.getElem?_toList]
theorem putAll_take {l : List Nat} {i : Nat} (hi : i < l.length) : AuditPlain.putAll (l.take (i + 1)) = AuditPlain.putAll (l.take i) ++ put ((l[i]?).getD 0) := by
  unfold AuditPlain.putAll
  rw [List.take_add_one, List.flatMap_append, List.getElem?_eq_getElem hi]
  simp
theorem numbers_call {o : Option ByteArray} (ho : SmallO o) {v : Value} {w : World} (hv : AtS w v o) : Calls Tryz.prog 32 #[v] w fun e w2 => Grown w w2 ∧ ∃ u b, e = .returned u ∧ NewS Tryz.prog .u8 5 w w2 (str (numbers (listOf o))) u b := by
  cases o with
  | none =>
    letI := unk0
    have hv : v = .slice none 0 0 := hv
    subst hv
    have e : numbers (listOf none) = [0] := by
      show put 0 ++ [] = [0]
      rw [put_one (by decide)]
      rfl
    rw [e]
    exact run_bytes (val := fun _ => .int .u8 0) (E := EN []) (w := w) rfl (fitT _ _) (fun f hf => by cases hf) rfl nums0 (fun u hu => by rw [List.mem_singleton.1 hu]; rfl) ⟨trivial, trivial⟩ rfl ⟨trivial, trivial⟩ tabs_nil
  | some s =>
    obtain ⟨x, arr, fz, hx⟩ := hv
    obtain ⟨hpos, hsm⟩ := ho s rfl
    rcases hsm with ⟨h5, hb⟩ | hz
    · -- up to five numbers
      let l := sbytes s
      have hk : l.length = s.size := sbytes_len s
      letI := unkN x l.length l
      let val := numsVal l
      have hcell : ∀ i, i < l.length → (l[i]?).getD 0 ≤ 64 ∧ arr[x.2.1 + i]? = some (.int .i64 ((l[i]?).getD 0 : Nat)) := by
        intro i hi
        have hlt : i < s.data.size := by rw [hk] at hi; exact hi
        have hd : s.data[i]? = some s.data[i] := Array.getElem?_eq_getElem hlt
        have hl : l[i]? = some (s.data[i]).toNat := by rw [sbytes_get, hd]; rfl
        rw [hl]
        exact ⟨hb i _ hd, hx.cell i _ hd⟩
      have hpl : ∀ i, i < 5 → Unk.place (72 + i) = i64At l i := by
        intro i hi
        show (if 72 + i = 60 then _ else if 72 ≤ 72 + i ∧ 72 + i < 77 then i64At l (72 + i - 72) else _) = _
        rw [if_neg (by omega), if_pos (by omega), show 72 + i - 72 = i by omega]
      have hchk := numsAll (k := l.length) (by omega) (by omega)
      unfold chkNums at hchk
      rw [band_eq, Bool.and_eq_true] at hchk
      obtain ⟨hcl, hchk⟩ := hchk
      have hall : ∀ a ∈ l, a < 2097152 := by
        intro a ha
        obtain ⟨i, hi, e⟩ := List.getElem_of_mem ha
        have := (hcell i hi).1
        rw [List.getElem?_eq_getElem hi, e] at this
        simp only [Option.getD_some] at this
        omega
      have hlen : ∀ i, (put l.length ++ AuditPlain.putAll (l.take i)).length ≤ 1000000 := by
        intro i
        rw [List.length_append]
        have h1 := (put_len (v := l.length) (by omega)).1
        have h2 := putAll_len (l.take i) fun a ha => hall a (List.mem_of_mem_take ha)
        have h3 : (l.take i).length ≤ l.length := by rw [List.length_take]; omega
        omega
      have v110 : ∀ i, i < 5 → val (110 + i) = .int .u64 ((l[i]?).getD 0 : Nat) := by
        intro i hi
        show numsVal l (110 + i) = _
        unfold numsVal
        rw [if_pos (by omega), show 110 + i - 110 = i by omega]
      have v120 : ∀ i, i < 5 → val (120 + i) = .string (str (put ((l[i]?).getD 0))) := by
        intro i hi
        show numsVal l (120 + i) = _
        unfold numsVal
        rw [if_neg (by omega), if_pos (by omega), show 120 + i - 120 = i by omega]
      have v130 : ∀ i, i < 5 → val (130 + i) = .string (str (put l.length ++ AuditPlain.putAll (l.take (i + 1)))) := by
        intro i hi
        show numsVal l (130 + i) = _
        unfold numsVal
        rw [if_neg (by omega), if_neg (by omega), if_pos (by omega), show 130 + i - 129 = i + 1 by omega]
      have v140 : ∀ i, i < 5 → val (140 + i) = .int .i64 ((put l.length ++ AuditPlain.putAll (l.take (i + 1))).length : Nat) := by
        intro i hi
        show numsVal l (140 + i) = _
        unfold numsVal
        rw [if_neg (by omega), if_neg (by omega), if_neg (by omega), if_pos (by omega), show 140 + i - 139 = i + 1 by omega]
      have hf : FactsOk (EnvT (numsF l.length) (numsT l.length)) (Bm val) := by
        intro f hf
        have hf : f ∈ numsF l.length := hf
        unfold numsF at hf
        obtain ⟨i, hi, hf⟩ := List.mem_flatMap.1 hf
        have hi : i < l.length := List.mem_range.1 hi
        have hi5 : i < 5 := by omega
        have hle := (hcell i hi).1
        rcases List.mem_append.1 hf with hf | hf
        · simp only [List.mem_cons, List.mem_nil_iff, or_false] at hf
          have e72 : conc (Bm val) (.sym (72 + i)) = .int .i64 ((l[i]?).getD 0 : Nat) := by rw [sym_low (by omega), hpl i hi5, symVal_i64]
          rcases hf with rfl | rfl | rfl
          · exact f_conv (sym_wf (by show 72 + i < 300; omega)) (sym_wf (by show 110 + i < 300; omega)) e72 (sym_at (by show 100 ≤ 110 + i; omega) (by show 110 + i < 300; omega) (v110 i hi5) rfl) (wrapU (by omega) (by omega))
          · exact text_true (by show 100 ≤ 120 + i; omega) (by show 120 + i < 300; omega) (v120 i hi5) ⟨sym_wf (by show 110 + i < 300; omega), trivial⟩ (by
              simp only [concs]
              rw [show Nat.add 110 i = 110 + i from rfl, sym_at (by omega) (by omega) (v110 i hi5) rfl]) (fun w _ => put_call (by omega) w)
          · exact some_true (by show 100 ≤ 120 + i; omega) (by show 120 + i < 300; omega) (v120 i hi5) (by rw [str_size]; exact (put_len (by omega)).2)
        · have hprev : WF (Bm val) (natC i (.str [l.length]) fun j => .sym (Nat.add 130 j)) ∧ conc (Bm val) (natC i (.str [l.length]) fun j => .sym (Nat.add 130 j)) = .string (str (put l.length ++ AuditPlain.putAll (l.take i))) := by
            cases i with
            | zero =>
              refine ⟨by intro b hb; rw [List.mem_singleton] at hb; omega, ?_⟩
              rw [put_one (by omega)]
              rfl
            | succ j => exact ⟨sym_wf (by show 130 + j < 300; omega), sym_at (by show 100 ≤ 130 + j; omega) (by show 130 + j < 300; omega) (v130 j (by omega)) rfl⟩
          refine cat_true hprev.1 (sym_wf (by show 120 + i < 300; omega)) hprev.2 (sym_at (by show 100 ≤ 120 + i; omega) (by show 120 + i < 300; omega) (v120 i hi5) rfl) (by show 100 ≤ 130 + i; omega) (by show 130 + i < 300; omega) ?_ (by show 100 ≤ 140 + i; omega) (by show 140 + i < 300; omega) ?_ ?_ f hf
          · rw [List.append_assoc, ← putAll_take hi]; exact v130 i hi5
          · rw [List.append_assoc, ← putAll_take hi]; exact v140 i hi5
          · rw [List.append_assoc, ← putAll_take hi]; exact hlen _
      have ht : TabsIn Tryz.prog (numsT l.length) w := by
        refine ⟨fun id => some (Unk.place id), fun _ _ => rfl, fun p hp => ?_⟩
        have hp : p ∈ [(60, ABlk.view (Tr.ofList ((List.range l.length).map fun i => .sym (Nat.add 72 i))))] := hp
        rw [List.mem_singleton] at hp
        subst hp
        refine ⟨arr, 3, fz, hx.row, fun i u hu => ?_⟩
        rw [Tr.get_ofList, List.getElem?_map] at hu
        obtain ⟨j, hj, rfl⟩ := Option.map_eq_some_iff.1 hu
        have hlt : i < l.length := by have := (List.getElem?_eq_some_iff.1 hj).1; simpa using this
        rw [List.getElem?_range hlt] at hj
        cases hj
        refine ⟨rfl, ?_⟩
        show arr[x.2.1 + i]? = some (symVal (Unk.place (72 + i)))
        rw [hpl i (by omega), symVal_i64]
        exact (hcell i hlt).2
      have := run_text (val := val) (E := EnvT (numsF l.length) (numsT l.length)) (w := w) rfl (fitT _ _) hf hcl hchk (by show 100 ≤ 129 + l.length; omega) (by show 129 + l.length < 300; omega) (s := str (numbers l)) (by
        have e := v130 (l.length - 1) (by omega)
        rw [show 130 + (l.length - 1) = 129 + l.length by omega, show l.length - 1 + 1 = l.length by omega, List.take_length] at e
        exact e) ⟨⟨rfl, Nat.le_refl _⟩, trivial⟩ ht
      have ea : (concs (Bm val) [.slice 60 0 l.length l.length false]).toArray = #[v] := by
        have hp60 : Bm val 60 = some (x.1, x.2.1, x.2.2 - l.length) := sig_low (by decide)
        simp only [concs, conc, Inj.addr, Inj.blk, Inj.sh, Inj.ext, hp60, Option.getD_some]
        rw [if_neg (by decide), Nat.add_sub_cancel' (by rw [hk]; exact hx.cap), hx.is, hk]
        rfl
      rw [ea] at this
      exact this
    · -- 64 zeros
      subst hz
      letI := unkN x 64 []
      have hchk := nums64
      unfold chkNums64 at hchk
      rw [band_eq, Bool.and_eq_true] at hchk
      obtain ⟨hcl, hchk⟩ := hchk
      have ht : TabsIn Tryz.prog numsT0 w := by
        refine ⟨fun id => some (Unk.place id), fun _ _ => rfl, fun p hp => ?_⟩
        have hp : p ∈ [(60, ABlk.view (Tr.ofList ((List.range 64).map fun _ => .int .i64 (.ofNat 0))))] := hp
        rw [List.mem_singleton] at hp
        subst hp
        refine ⟨arr, 3, fz, hx.row, fun i u hu => ?_⟩
        rw [Tr.get_ofList, List.getElem?_map] at hu
        obtain ⟨j, hj, rfl⟩ := Option.map_eq_some_iff.1 hu
        have hlt : i < 64 := by have := (List.getElem?_eq_some_iff.1 hj).1; simpa using this
        refine ⟨trivial, ?_⟩
        have hd : zeros64.data[i]? = some 0 := by
          show ((List.replicate 64 (0 : UInt8)).toArray)[i]? = some 0
          rw [List.getElem?_toArray, List.getElem?_replicate, if_pos hlt]
        exact hx.cell i 0 hd
      have e : numbers (listOf (some zeros64)) = 64 :: List.replicate 64 0 := by
        have : listOf (some zeros64) = List.replicate 64 0 := by
          show sbytes zeros64 = _
          unfold sbytes
          rw [mapA_eq]
          rfl
        rw [this]
        unfold AuditPlain.numbers
        rw [List.length_replicate, put_one (by decide)]
        have h0 : put 0 = [0] := put_one (by decide)
        have : AuditPlain.putAll (List.replicate 64 0) = List.replicate 64 0 := by
          unfold AuditPlain.putAll
          simp [h0]
        rw [this]
        rfl
      rw [e]
      have := run_bytes (val := fun _ => .int .u8 0) (E := EnvT [] numsT0) (w := w) (s := str (64 :: List.replicate 64 0)) rfl (fitT _ _) (fun f hf => by cases hf) hcl hchk (fun u hu => by
        rcases List.mem_cons.1 hu with rfl | hu
        · rfl
        · obtain ⟨_, _, rfl⟩ := List.mem_map.1 hu
          rfl) (by
        rw [WFs_iff]
        intro u hu
        rcases List.mem_cons.1 hu with rfl | hu
        · trivial
        · obtain ⟨_, _, rfl⟩ := List.mem_map.1 hu
          trivial) (by
        rw [concs_eq]
        rfl) (args := [.slice 60 0 64 64 false]) ⟨⟨rfl, Nat.le_refl _⟩, trivial⟩ ht
      have ea : (concs (Bm fun _ => .int .u8 0) [.slice 60 0 64 64 false]).toArray = #[v] := by
        have hp60 : Bm (fun _ => .int .u8 0) 60 = some (x.1, x.2.1, x.2.2 - 64) := sig_low (by decide)
        simp only [concs, conc, Inj.addr, Inj.blk, Inj.sh, Inj.ext, hp60, Option.getD_some]
        have h64 : zeros64.size = 64 := rfl
        rw [if_neg (by decide), Nat.add_sub_cancel' (by have := hx.cap; omega), hx.is, h64]
        rfl
      rw [ea] at this
      exact this
end Go.AEv
/- Which records are equal: the bytes of a record, as the call gives them. Conditions: its numbers are in their bounds, its texts short, its lists lie in memory. -/
namespace Go.AEv
open Go.Proofs
open Go.AuditPlain (put putInt putBytes putFlag numbers zig hi hi_step hi_zero)
set_option linter.unusedSectionVars false

noncomputable def RecS.toRec (r : RecS) : AuditPlain.Rec := ⟨r.number.toNat, r.version.toNat, sbytes r.tenant, r.session, sbytes r.action, sbytes r.path, r.day.toNat, r.granted, r.user.toNat, listOf r.up, listOf r.down, sbytes r.does, sbytes r.at_, r.deep⟩
noncomputable def RecS.first (r : RecS) : List Nat := put r.number.toNat
noncomputable def RecS.parts (r : RecS) : List (List Nat) := [put r.version.toNat, putBytes (sbytes r.tenant), putInt r.session, putBytes (sbytes r.action), putBytes (sbytes r.path), put r.day.toNat, putFlag r.granted, put r.user.toNat, numbers (listOf r.up), numbers (listOf r.down),
  putBytes (sbytes r.does), putBytes (sbytes r.at_), putFlag r.deep]
theorem RecS.bytes_eq (r : RecS) : r.toRec.bytes = r.first ++ r.parts.flatten := by
  show _ = put r.number.toNat ++ List.flatten [_, _, _, _, _, _, _, _, _, _, _, _, _]
  simp only [List.flatten_cons, List.flatten_nil, List.append_nil]
  rfl
def strCode (s : ByteArray) : Nat × Nat × Nat := (8, ofStr s.data.toList + 1, 0)
theorem symVal_code [Unk] (s : ByteArray) : symVal (strCode s) = .string s := by
  simp only [strCode, symVal, kOf]
  rw [strOf_ofStr _ _ (Nat.le_refl _)]
@[reducible] def unkB (x1 x2 : Nat × Nat × Nat) (s1 s2 : ByteArray) : Unk where
  val _ := .int .u8 0
  plain _ := rfl
  place g := if g = 60 then x1 else if g = 61 then x2 else if g = 70 then strCode s1 else if g = 71 then strCode s2 else (g, 0, 0)
  glob g hg := by rw [if_neg (by omega), if_neg (by omega), if_neg (by omega), if_neg (by omega)]
noncomputable def bVal (r : RecS) (id : Nat) : Value :=
  if 140 ≤ id ∧ id < 153 then .string (str (r.first ++ (r.parts.take (id - 139)).flatten))
  else if 160 ≤ id ∧ id < 173 then .int .i64 ((r.first ++ (r.parts.take (id - 159)).flatten).length : Nat)
  else match id with
  | 100 => .int .i64 r.number | 101 => .int .i64 r.version | 102 => .string r.tenant | 103 => .int .i64 r.session | 104 => .string r.action | 105 => .string r.path | 106 => .int .i64 r.day | 107 => .bool r.granted | 108 => .int .i64 r.user
  | 109 => .string r.does | 110 => .string r.at_ | 111 => .bool r.deep | 112 => .int .u64 r.number | 113 => .int .u64 r.version | 114 => .int .u64 r.day | 115 => .int .u64 r.user
  | 120 => .string (str (put r.number.toNat)) | 121 => .string (str (put r.version.toNat)) | 122 => .string (str (put r.day.toNat)) | 123 => .string (str (put r.user.toNat)) | 124 => .string (str (putBytes (sbytes r.tenant))) | 125 => .string (str (putBytes (sbytes r.action)))
  | 126 => .string (str (putBytes (sbytes r.path))) | 127 => .string (str (putBytes (sbytes r.does))) | 128 => .string (str (putBytes (sbytes r.at_))) | 129 => .string (str (putInt r.session)) | 130 => .string (str (putFlag r.granted)) | 131 => .string (str (putFlag r.deep))
  | 132 => .string (str (numbers (listOf r.up))) | 133 => .string (str (numbers (listOf r.down))) | 134 => .string (str (numbers (listOf none))) | _ => .int .u8 0

theorem cats_true [Unk] {val : Nat → Value} {tabs : List (Nat × ABlk)} : ∀ (l : List Nat) (bs : List (List Nat)) (a r : Nat) (s : List Nat), l.length = bs.length → (∀ (i p : Nat) (b : List Nat), l[i]? = some p → bs[i]? = some b → 100 ≤ p ∧ p < 300 ∧ val p = .string (str b)) → 100 ≤ a → a < 300 → val a = .string (str s) →
    100 ≤ r → r + 20 + l.length < 300 → (∀ i, i < l.length → val (r + i) = .string (str (s ++ (bs.take (i + 1)).flatten)) ∧ val (r + 20 + i) = .int .i64 ((s ++ (bs.take (i + 1)).flatten).length : Nat)) → (s ++ bs.flatten).length ≤ 1000000 → ∀ f ∈ catsF l a r, FactTrue Tryz.prog tabs (Bm val) f
  | [], _, _, _, _, _, _, _, _, _, _, _, _, _, f, hf => by cases hf
  | p :: l, [], _, _, _, h, _, _, _, _, _, _, _, _, _, _ => by cases h
  | p :: l, b :: bs, a, r, s, hlen, hp, ha1, ha2, hva, hr1, hr2, hv, hb, f, hf => by
    have hf : f ∈ appA (catF (.sym a) (.sym p) r (Nat.add r 20)) (catsF l r (Nat.succ r)) := hf
    rw [appA_eq] at hf
    have hr3 : r + 20 + (l.length + 1) < 300 := hr2
    obtain ⟨p1, p2, p3⟩ := hp 0 p b rfl rfl
    obtain ⟨q1, q2⟩ := hv 0 (by simp)
    have e0 : s ++ ((b :: bs).take (0 + 1)).flatten = s ++ b := by simp
    rw [e0] at q1 q2
    have hb2 : (s ++ b ++ bs.flatten).length ≤ 1000000 := by rw [List.append_assoc, ← List.flatten_cons]; exact hb
    rcases List.mem_append.1 hf with hf | hf
    · exact cat_true (sym_wf ha2) (sym_wf p2) (sym_at ha1 ha2 hva rfl) (sym_at p1 p2 p3 rfl) hr1 (by omega) q1 (by show 100 ≤ r + 20; omega) (by show r + 20 < 300; omega) q2 (by rw [List.length_append] at hb2; omega) f hf
    · refine cats_true l bs r (r + 1) (s ++ b) (by simpa using hlen) (fun i p b h1 h2 => hp (i + 1) p b h1 h2) hr1 (by omega) q1 (by omega) (by omega) (fun i hi => ?_) hb2 f hf
      obtain ⟨g1, g2⟩ := hv (i + 1) (by simp; omega)
      have e : s ++ ((b :: bs).take (i + 1 + 1)).flatten = s ++ b ++ (bs.take (i + 1)).flatten := by rw [List.take_succ_cons, List.flatten_cons, List.append_assoc]
      rw [e] at g1 g2
      rw [show r + 1 + i = r + (i + 1) by omega, show r + 1 + 20 + i = r + 20 + (i + 1) by omega]
      exact ⟨g1, g2⟩
theorem list_lt {o : Option ByteArray} (ho : SmallO o) : (listOf o).length ≤ 64 ∧ ∀ a ∈ listOf o, a < 2097152 := by
  cases o with
  | none => exact ⟨Nat.zero_le _, fun a ha => by cases ha⟩
  | some s =>
    refine ⟨?_, fun a ha => ?_⟩
    · show (sbytes s).length ≤ 64
      rw [sbytes_len]
      rcases (ho s rfl).2 with h | h
      · omega
      · rw [h]; decide
    · have ha : a ∈ sbytes s := ha
      unfold sbytes at ha
      rw [mapA_eq] at ha
      obtain ⟨c, _, rfl⟩ := List.mem_map.1 ha
      have := c.toNat_lt
      omega
theorem numbers_len {o : Option ByteArray} (ho : SmallO o) : (numbers (listOf o)).length ≤ 200 ∧ 0 < (numbers (listOf o)).length := by
  obtain ⟨h1, h2⟩ := list_lt ho
  unfold AuditPlain.numbers
  rw [List.length_append]
  have h3 := put_len (v := (listOf o).length) (by omega)
  have h4 := putAll_len _ h2
  omega
theorem putBytes_len {s : ByteArray} (h : s.size ≤ 20) : (putBytes (sbytes s)).length ≤ 23 ∧ 0 < (putBytes (sbytes s)).length := by
  unfold AuditPlain.putBytes
  rw [List.length_append, sbytes_len]
  have h3 := put_len (v := s.size) (by omega)
  omega
theorem putFlag_len (b : Bool) : (putFlag b).length = 1 := by cases b <;> rfl
/-- the record has an encoding -/
structure RecS.Plain (r : RecS) : Prop extends r.Ok where
  ver : 0 ≤ r.version
  ses : 0 ≤ r.session
theorem putInt_len {n : Int} (h1 : 0 ≤ n) (h2 : n ≤ 5) : (putInt n).length ≤ 3 ∧ 0 < (putInt n).length := by
  unfold AuditPlain.putInt
  exact put_len (by unfold zig; rw [if_pos h1]; omega)
theorem parts_len {r : RecS} (h : r.Plain) : ∀ b ∈ r.parts, b.length ≤ 200 ∧ 0 < b.length := by
  intro b hb
  unfold RecS.parts at hb
  have h1 := h.version; have h2 := h.day; have h3 := h.user; have h4 := h.session; have h5 := h.ver; have h6 := h.ses
  simp only [List.mem_cons, List.mem_nil_iff, or_false] at hb
  rcases hb with rfl | rfl | rfl | rfl | rfl | rfl | rfl | rfl | rfl | rfl | rfl | rfl | rfl
  · have := put_len (v := r.version.toNat) (by omega); omega
  · have := putBytes_len h.tenant; omega
  · have := putInt_len h6 h4.2; omega
  · have := putBytes_len h.action; omega
  · have := putBytes_len h.path; omega
  · have := put_len (v := r.day.toNat) (by omega); omega
  · have := putFlag_len r.granted; omega
  · have := put_len (v := r.user.toNat) (by omega); omega
  · exact numbers_len h.up
  · exact numbers_len h.down
  · have := putBytes_len h.does; omega
  · have := putBytes_len h.at_; omega
  · have := putFlag_len r.deep; omega
theorem flat_len : ∀ (l : List (List Nat)), (∀ b ∈ l, b.length ≤ 200) → l.flatten.length ≤ 200 * l.length
  | [], _ => Nat.le_refl _
  | b :: l, h => by
    have h1 := h b List.mem_cons_self
    have h2 := flat_len l fun c hc => h c (List.mem_cons_of_mem _ hc)
    rw [List.flatten_cons, List.length_append, List.length_cons]
    omega
end Go.AEv
