/- Which records are equal: what a run of the evaluator gives at this program. Conditions: none. -/
import Derived.Test.YthhjhddekambcaaGreatDoorAEL
namespace Go.AEv
open Go.Proofs
set_option linter.unusedSectionVars false
theorem specOks : ∀ p ∈ specs, SpecOne Tryz.prog p.1 p.2 := by
  intro p hp
  simp only [specs, List.mem_cons, List.mem_nil_iff, or_false] at hp
  rcases hp with rfl | rfl | rfl | rfl | rfl | rfl | rfl | rfl | rfl | rfl | rfl | rfl | rfl | rfl | rfl | rfl | rfl | rfl | rfl | rfl | rfl | rfl | rfl | rfl | rfl | rfl | rfl | rfl | rfl
  iterate 23 · trivial
  · exact ⟨Tryz.f362, Tryz.func362, by kernel_rfl, by kernel_rfl, by kernel_rfl, by kernel_rfl⟩
  · exact ⟨Tryz.f439, Tryz.func439, by kernel_rfl, by kernel_rfl, by kernel_rfl, by kernel_rfl⟩
  · exact ⟨#[3], 24, ⟨Tryz.f500, Tryz.func500, by kernel_rfl, by kernel_rfl, by kernel_rfl, by kernel_rfl⟩, Tryz.underlying24, by kernel_rfl⟩
  · exact ⟨Tryz.f469, Tryz.func469, by kernel_rfl, by kernel_rfl, by kernel_rfl, by kernel_rfl⟩
  · exact ⟨Tryz.f221, Tryz.func221, by kernel_rfl, by kernel_rfl, by kernel_rfl, by kernel_rfl⟩
  · exact ⟨Tryz.f357, Tryz.func357, by kernel_rfl, by kernel_rfl, by kernel_rfl, by kernel_rfl⟩
theorem noCount : noCountB Tryz.prog = true := by kernel_rfl
theorem mixed : Tryz.prog.follows .mixedOrders = true := by kernel_rfl
theorem closed : closedTabs tabs = true := by kernel_rfl
theorem size3 : tsize Tryz.prog 3 = 1 := by kernel_rfl
theorem size5 : tsize Tryz.prog 5 = 1 := by kernel_rfl
variable [Unk]
theorem fitT (facts : List Fact) (t : List (Nat × ABlk)) : Fit (EnvT facts t) := fit_mk noCount mixed specOks

/-! ### Lists -/
omit [Unk] in
theorem allN_ok {p : Nat → Bool} : ∀ {l : List Nat}, allN p l = true → ∀ a ∈ l, p a = true
  | [], _, a, ha => by cases ha
  | b :: l, h, a, ha => by
    have h : ifB (p b) (allN p l) false = true := h
    rw [ifB_eq] at h
    split at h
    · rename_i hb
      rcases List.mem_cons.1 ha with rfl | ha
      · exact hb
      · exact allN_ok h a ha
    · cases h
omit [Unk] in
theorem rng_mem {a n i : Nat} (h1 : a ≤ i) (h2 : i < a + n) : i ∈ rng a n := by
  unfold rng
  exact List.mem_map.2 ⟨i - a, List.mem_range.2 (by omega), by show a + (i - a) = i; omega⟩

omit [Unk] in
theorem recAll {α : Type} {p : α → Bool} : ∀ {l : List α}, List.rec (motive := fun _ => Bool) true (fun x _ ih => ifB (p x) ih false) l = true → ∀ x ∈ l, p x = true
  | [], _, x, hx => by cases hx
  | b :: l, h, x, hx => by
    have h : ifB (p b) (List.rec (motive := fun _ => Bool) true (fun x _ ih => ifB (p x) ih false) l) false = true := h
    rw [ifB_eq] at h
    split at h
    · rename_i hb
      rcases List.mem_cons.1 hx with rfl | hx
      · exact hb
      · exact recAll h x hx
    · cases h

/-! ### Runs -/
theorem chkRun_ok {E : Env} {f : FuncId} {args : List AVal} {ok : AVal → Heap → Bool} (h : chkRun E f args ok = true) : ∃ v H', abody E (arec E F) f args (startH E 300) = some (v, H') ∧ ok v H' = true := by
  unfold chkRun at h
  cases hr : abody E (arec E F) f args (startH E 300) with
  | none => rw [hr] at h; cases h
  | some p => rw [hr, obind_some] at h; exact ⟨p.1, p.2, rfl, h⟩

section
variable {val : Nat → Value}
/-- a scalar: an int between two bounds, a short string, a truth value -/
structure LI (val : Nat → Value) (lo hi : Int) (v : AVal) : Prop where
  wf : WF (Bm val) v
  low : lowV 300 v = true
  ex : ∃ n, conc (Bm val) v = .int .i64 n ∧ lo ≤ n ∧ n ≤ hi
structure LS (val : Nat → Value) (v : AVal) : Prop where
  wf : WF (Bm val) v
  low : lowV 300 v = true
  ex : ∃ s, conc (Bm val) v = .string s ∧ s.size ≤ 20
structure LB (val : Nat → Value) (v : AVal) : Prop where
  wf : WF (Bm val) v
  low : lowV 300 v = true
  ex : ∃ b, conc (Bm val) v = .bool b

theorem memN_ok {n : Nat} {l : List Nat} (h : memN n l = true) : n ∈ l := (memN_eq n l).1 h
theorem okI_ok {lo hi lo' hi' : Int} {ok : List Nat} {v : AVal} (h : okI lo hi ok v = true) (h1 : lo' ≤ lo) (h2 : hi ≤ hi') (hs : ∀ i ∈ ok, 100 ≤ i ∧ i < 300 ∧ ∃ n, val i = .int .i64 n ∧ lo' ≤ n ∧ n ≤ hi') : LI val lo' hi' v := by
  cases v <;> simp only [okI] at h <;> first | (cases h; done) | skip
  · rename_i k n
    simp only [band_eq, Bool.and_eq_true, bnot_eq, ilt_eq, Bool.not_eq_true', decide_eq_false_iff_not] at h
    obtain ⟨h3, h4, h5⟩ := h
    have h3 := isI64_eq h3
    subst h3
    exact ⟨trivial, rfl, n, rfl, by omega, by omega⟩
  · rename_i i
    obtain ⟨a1, a2, n, a3, a4, a5⟩ := hs i (memN_ok h)
    exact ⟨sym_wf a2, by simpa [lowV] using a2, n, sym_at a1 a2 a3 rfl, a4, a5⟩
theorem okS_ok {ok : List Nat} {v : AVal} (h : okS ok v = true) (hs : ∀ i ∈ ok, 100 ≤ i ∧ i < 300 ∧ ∃ s, val i = .string s ∧ s.size ≤ 20) : LS val v := by
  cases v <;> simp only [okS] at h <;> first | (cases h; done) | skip
  · rename_i l
    simp only [band_eq, Bool.and_eq_true, nble_eq, decide_eq_true_eq, lenA0] at h
    refine ⟨fun b hb => ?_, rfl, str l, rfl, by rw [str_size]; exact h.1⟩
    have := allN_ok h.2 b hb
    rwa [nblt_eq, decide_eq_true_eq] at this
  · rename_i i
    obtain ⟨a1, a2, s, a3, a4⟩ := hs i (memN_ok h)
    exact ⟨sym_wf a2, by simpa [lowV] using a2, s, sym_at a1 a2 a3 rfl, a4⟩
theorem okB_ok {ok : List Nat} {v : AVal} (h : okB ok v = true) (hs : ∀ i ∈ ok, 100 ≤ i ∧ i < 300 ∧ ∃ b, val i = .bool b) : LB val v := by
  cases v <;> simp only [okB] at h <;> first | (cases h; done) | skip
  · rename_i b
    exact ⟨trivial, rfl, b, rfl⟩
  · rename_i i
    obtain ⟨a1, a2, b, a3⟩ := hs i (memN_ok h)
    exact ⟨sym_wf a2, by simpa [lowV] using a2, b, sym_at a1 a2 a3 rfl⟩

/-- a run whose result is made of scalars -/
theorem run_scal {E : Env} (hF : Fit E) (hfacts : FactsOk E (Bm val)) (hcl : closedTabs E.tabs = true) {f : FuncId} {args l : List AVal} {v : AVal} {H' : Heap} (hrun : abody E (arec E F) f args (startH E 300) = some (v, H'))
    (hv : v = .agg l ∨ l = [v]) (hl : ∀ u ∈ l, lowV 300 u = true) (hw : WFs (Bm val) l) (hargs : WFs (Bm val) args) {w : World} (ht : TabsIn E.P E.tabs w) :
    Calls E.P f (concs (Bm val) args).toArray w fun e w2 => Grown w w2 ∧ e = .returned (conc (Bm val) v) := by
  refine (calls_of_run hF (by decide) sig_lt hfacts hcl hrun hargs ht).mono fun e w2 hx => ?_
  obtain ⟨hg, γ, rfl, a1, a2, a3, a4⟩ := hx
  refine ⟨hg, ?_⟩
  have := low_concs a2 hl hw
  rcases hv with rfl | rfl
  · simp only [conc, this]
  · simp only [concs, List.cons.injEq, and_true] at this
    rw [this]
end

/-! ### Texts by their number -/
@[reducible] def unk0 : Unk := { val := fun _ => .int .u8 0, plain := fun _ => rfl, place := fun g => (g, 0, 0), glob := fun _ _ => rfl }
omit [Unk] in
theorem str_call {f n : Nat} (h : chkStr f n = true) : ∃ s : ByteArray, s.size ≤ 20 ∧ ∀ w, Calls Tryz.prog f #[.int .u8 (n : Nat)] w fun e w2 => Grown w w2 ∧ e = .returned (.string s) := by
  letI := unk0
  obtain ⟨v, H', hr, hk⟩ := chkRun_ok h
  have hv : LS (fun _ => .int .u8 0) v := okS_ok hk (fun i hi => by cases hi)
  obtain ⟨s, hs, hle⟩ := hv.ex
  refine ⟨s, hle, fun w => ?_⟩
  have := run_scal (val := fun _ => .int .u8 0) (fitT [] []) (fun f hf => by cases hf) rfl hr (l := [v]) (.inr rfl) (fun u hu => by rw [List.mem_singleton] at hu; rw [hu]; exact hv.low) ⟨hv.wf, trivial⟩ (by exact ⟨trivial, trivial⟩) (w := w) tabs_nil
  rw [hs] at this
  exact this
omit [Unk] in
theorem perm_call {n : Nat} (h : chkPm n = true) : ∃ (s t : ByteArray) (b : Bool), s.size ≤ 20 ∧ t.size ≤ 20 ∧ ∀ w, Calls Tryz.prog 113 #[.int .u8 (n : Nat)] w fun e w2 => Grown w w2 ∧ e = .returned (.agg #[.string s, .string t, .bool b]) := by
  letI := unk0
  obtain ⟨v, H', hr, hk⟩ := chkRun_ok h
  unfold permOk at hk
  split at hk
  · rename_i a b c
    simp only [band_eq, Bool.and_eq_true] at hk
    obtain ⟨k1, k2, k3⟩ := hk
    have l1 : LS (fun _ => .int .u8 0) a := okS_ok k1 (fun i hi => by cases hi)
    have l2 : LS (fun _ => .int .u8 0) b := okS_ok k2 (fun i hi => by cases hi)
    have l3 : LB (fun _ => .int .u8 0) c := okB_ok k3 (fun i hi => by cases hi)
    obtain ⟨s, hs, h1⟩ := l1.ex
    obtain ⟨t, ht, h2⟩ := l2.ex
    obtain ⟨d, hd⟩ := l3.ex
    refine ⟨s, t, d, h1, h2, fun w => ?_⟩
    have := run_scal (val := fun _ => .int .u8 0) (fitT [] []) (fun f hf => by cases hf) rfl hr (l := [a, b, c]) (.inl rfl) (fun u hu => by
      simp only [List.mem_cons, List.mem_nil_iff, or_false] at hu
      rcases hu with rfl | rfl | rfl
      · exact l1.low
      · exact l2.low
      · exact l3.low) ⟨l1.wf, l2.wf, l3.wf, trivial⟩ (by exact ⟨trivial, trivial⟩) (w := w) tabs_nil
    simp only [conc, concs] at this hs ht hd
    rw [hs, ht, hd] at this
    exact this
  · cases hk
end Go.AEv
