/- Which records are equal: a request, and a chain, are what their calls give. Conditions: none. -/
import Derived.Test.YthhjhddekambcaaGreatDoorAEB
import Derived.Test.YthhjhddekambcaaGreatDoorAE4
import Derived.Test.YthhjhddekambcaaGreatDoorAE5
namespace Go.AEv
open Go.Proofs
set_option linter.unusedSectionVars false

theorem word_call {n : Nat} (h : n < 256) : ∃ s : ByteArray, s.size ≤ 20 ∧ ∀ w, Calls Tryz.prog 61 #[.int .u8 (n : Nat)] w fun e w2 => Grown w w2 ∧ e = .returned (.string s) := str_call (allN_ok word1 n (rng_mem (Nat.zero_le _) (by omega)))
theorem act_call {n : Nat} (h : n < 256) : ∃ s : ByteArray, s.size ≤ 20 ∧ ∀ w, Calls Tryz.prog 59 #[.int .u8 (n : Nat)] w fun e w2 => Grown w w2 ∧ e = .returned (.string s) := str_call (allN_ok act1 n (rng_mem (Nat.zero_le _) (by omega)))
theorem path_call {n : Nat} (h : n < 256) : ∃ s : ByteArray, s.size ≤ 20 ∧ ∀ w, Calls Tryz.prog 60 #[.int .u8 (n : Nat)] w fun e w2 => Grown w w2 ∧ e = .returned (.string s) := str_call (allN_ok path1 n (rng_mem (Nat.zero_le _) (by omega)))

/-! ### Ints and symbols -/
section
variable [Unk] {val : Nat → Value} {tabs : List (Nat × ABlk)}
theorem c_u8 (n : Nat) : conc (Bm val) (u8c n) = .int .u8 (n : Nat) := rfl
theorem c_i64 (n : Nat) : conc (Bm val) (i64c n) = .int .i64 (n : Nat) := rfl
theorem w_u8 (n : Nat) : WF (Bm val) (u8c n) := trivial
theorem w_i64 (n : Nat) : WF (Bm val) (i64c n) := trivial
theorem geq_fact {id n c : Nat} (h1 : 100 ≤ id) (h2 : id < 300) (e : val id = .int .u8 (n : Nat)) {b : Bool} (hb : b = decide (c ≤ n)) : FactTrue Tryz.prog tabs (Bm val) (.bin .geq (.sym id) (u8c c) (boolV b)) := by
  refine f_bin (k := .u8) (j := .u8) (m := (n : Nat)) (n := (c : Nat)) (sym_wf h2) trivial (by unfold boolV; rw [ifB_eq]; split <;> trivial) (sym_at h1 h2 e rfl) rfl (v := mkBool (bnot (ilt (n : Nat) (c : Nat)))) rfl ?_
  rw [bnot_eq, ilt_eq, hb]
  unfold mkBool boolV
  by_cases h : c ≤ n
  · rw [decide_eq_true h, decide_eq_false (by omega)]; rfl
  · rw [decide_eq_false h, decide_eq_true (by omega)]; rfl
theorem rem_sym {k : IntKind} {a r m c : Nat} (h1 : 100 ≤ a) (h2 : a < 300) (h3 : 100 ≤ r) (h4 : r < 300) (e1 : val a = .int k (m : Nat)) (hc : c ≠ 0) (e2 : val r = .int k (m % c : Nat)) : FactTrue Tryz.prog tabs (Bm val) (.bin .rem (.sym a) (.int k (.ofNat c)) (.sym r)) :=
  f_rem (sym_wf h2) (sym_wf h4) (sym_at h1 h2 e1 rfl) hc (sym_at h3 h4 e2 rfl)
theorem rem_lit {a m c j : Nat} (h1 : 100 ≤ a) (h2 : a < 300) (e1 : val a = .int .u8 (m : Nat)) (hc : c ≠ 0) (e2 : m % c = j) : FactTrue Tryz.prog tabs (Bm val) (.bin .rem (.sym a) (u8c c) (u8c j)) :=
  f_rem (sym_wf h2) trivial (sym_at h1 h2 e1 rfl) hc (by rw [e2]; rfl)
theorem conv_sym {j : IntKind} {a r n : Nat} (h1 : 100 ≤ a) (h2 : a < 300) (h3 : 100 ≤ r) (h4 : r < 300) (e1 : val a = .int j (n : Nat)) (e2 : val r = .int .i64 (n : Nat)) (hn : n < 1000000) : FactTrue Tryz.prog tabs (Bm val) (.conv .i64 (.sym a) (.sym r)) :=
  f_conv (sym_wf h2) (sym_wf h4) (sym_at h1 h2 e1 rfl) (sym_at h3 h4 e2 rfl) (wrapI (by omega) (by omega))
theorem call_scal {f : FuncId} {args : List AVal} {r : AVal} {vs : Array Value} {v : Value} (ha : WFs (Bm val) args) (hr : WF (Bm val) r) (e1 : (concs (Bm val) args).toArray = vs) (e2 : conc (Bm val) r = v)
    (h : ∀ w, Calls Tryz.prog f vs w fun e w2 => Grown w w2 ∧ e = .returned v) : FactTrue Tryz.prog tabs (Bm val) (.call f args r) :=
  ⟨ha, hr, fun w _ => by rw [e1, e2]; exact (h w).mono fun _ _ hx => ⟨hx.2, hx.1⟩⟩
end

/-! ### A request -/
def askVal (s a p : Nat) (u v t : ByteArray) (id : Nat) : Value :=
  match id with
  | 104 => .int .u8 (s : Nat) | 105 => .int .u8 (a : Nat) | 106 => .int .u8 (p : Nat) | 150 => .string u | 151 => .string v | 152 => .string t
  | 153 => .int .u8 (s % 4 : Nat) | 154 => .int .i64 (s % 4 : Nat) | 155 => .int .i64 (1 + s % 4 : Nat) | 156 => .int .i64 (s : Nat) | 157 => .int .i64 ((s : Int) - 250) | _ => .int .u8 0
theorem ask_call {s a p : Nat} (hs : s < 256) (ha : a < 256) (hp : p < 256) : ∃ (n : Int) (u v : ByteArray), -250 ≤ n ∧ n ≤ 5 ∧ u.size ≤ 20 ∧ v.size ≤ 20 ∧
    ∀ w, Calls Tryz.prog 22 #[.agg #[.int .u8 (s : Nat), .int .u8 (a : Nat), .int .u8 (p : Nat)]] w fun e w2 => Grown w w2 ∧ e = .returned (.agg #[.int .i64 n, .string u, .string v]) := by
  obtain ⟨u, hu, cu⟩ := act_call ha
  obtain ⟨v, hv, cv⟩ := path_call hp
  obtain ⟨t, ht, ct⟩ := word_call ha
  letI := unk0
  let val := askVal s a p u v t
  let x : Ask := ⟨decide (240 ≤ s), decide (240 ≤ a), if 240 ≤ p then p % 4 else 4⟩
  have hx : x ∈ asks := by
    unfold asks
    refine List.mem_flatMap.2 ⟨x.sess, by cases x.sess <;> simp, List.mem_flatMap.2 ⟨x.act, by cases x.act <;> simp, List.mem_map.2 ⟨x.pth, ?_, rfl⟩⟩⟩
    have : x.pth ≤ 4 := by
      show (if 240 ≤ p then p % 4 else 4) ≤ 4
      split <;> omega
    simp only [List.mem_cons, List.mem_nil_iff, or_false]
    omega
  have hc : chkAsk x = true := recAll (p := chkAsk) (l := asks) ask1 x hx
  have hf : FactsOk (EN x.facts) (Bm val) := by
    intro f hf
    have hf : f ∈ x.facts := hf
    unfold Ask.facts at hf
    rcases List.mem_append.1 hf with hf | hf
    · simp only [List.mem_cons, List.mem_nil_iff, or_false] at hf
      rcases hf with rfl | rfl | rfl | rfl | rfl | rfl | rfl | rfl | rfl | rfl | rfl
      · exact call_scal ⟨sym_wf (by decide), trivial⟩ (sym_wf (by decide)) (by simp only [concs]; rw [sym_at (by decide) (by decide) (show val 105 = .int .u8 (a : Nat) from rfl) rfl]) (sym_at (by decide) (by decide) (show val 150 = .string u from rfl) rfl) cu
      · exact call_scal ⟨sym_wf (by decide), trivial⟩ (sym_wf (by decide)) (by simp only [concs]; rw [sym_at (by decide) (by decide) (show val 106 = .int .u8 (p : Nat) from rfl) rfl]) (sym_at (by decide) (by decide) (show val 151 = .string v from rfl) rfl) cv
      · exact call_scal ⟨sym_wf (by decide), trivial⟩ (sym_wf (by decide)) (by simp only [concs]; rw [sym_at (by decide) (by decide) (show val 105 = .int .u8 (a : Nat) from rfl) rfl]) (sym_at (by decide) (by decide) (show val 152 = .string t from rfl) rfl) ct
      · exact geq_fact (by decide) (by decide) (show val 104 = .int .u8 (s : Nat) from rfl) rfl
      · exact geq_fact (by decide) (by decide) (show val 105 = .int .u8 (a : Nat) from rfl) rfl
      · refine geq_fact (by decide) (by decide) (show val 106 = .int .u8 (p : Nat) from rfl) ?_
        show Nat.blt (if 240 ≤ p then p % 4 else 4) 4 = _
        rw [nblt_eq]
        split <;> rename_i h
        · rw [decide_eq_true h, decide_eq_true (by omega)]
        · rw [decide_eq_false h, decide_eq_false (by omega)]
      · exact rem_sym (by decide) (by decide) (by decide) (by decide) (show val 104 = .int .u8 (s : Nat) from rfl) (by decide) rfl
      · exact conv_sym (by decide) (by decide) (by decide) (by decide) (show val 153 = .int .u8 (s % 4 : Nat) from rfl) rfl (by omega)
      · refine f_bin (k := .i64) (j := .i64) (m := (1 : Nat)) (n := (s % 4 : Nat)) trivial (sym_wf (by decide)) (sym_wf (by decide)) rfl (sym_at (by decide) (by decide) (show val 154 = .int .i64 (s % 4 : Nat) from rfl) rfl) (v := mkInt .i64 (awrap .i64 (iadd (1 : Nat) (s % 4 : Nat)))) rfl ?_
        rw [mkInt_eq, awrap_eq, iadd_eq, wrapI (by omega) (by omega), sym_at (by decide) (by decide) (show val 155 = .int .i64 (1 + s % 4 : Nat) from rfl) rfl]
        simp [conc]
      · exact conv_sym (by decide) (by decide) (by decide) (by decide) (show val 104 = .int .u8 (s : Nat) from rfl) rfl (by omega)
      · refine f_bin (k := .i64) (j := .i64) (m := (s : Nat)) (n := (250 : Nat)) (sym_wf (by decide)) trivial (sym_wf (by decide)) (sym_at (by decide) (by decide) (show val 156 = .int .i64 (s : Nat) from rfl) rfl) rfl (v := mkInt .i64 (awrap .i64 (isub (s : Nat) (250 : Nat)))) rfl ?_
        rw [mkInt_eq, awrap_eq, isub_eq, wrapI (by omega) (by omega), sym_at (by decide) (by decide) (show val 157 = .int .i64 ((s : Int) - 250) from rfl) rfl]
        simp [conc]
    · rw [ifB_eq] at hf
      split at hf
      · rename_i h
        rw [nblt_eq, decide_eq_true_eq] at h
        rw [List.mem_singleton] at hf
        subst hf
        refine rem_lit (by decide) (by decide) (show val 106 = .int .u8 (p : Nat) from rfl) (by decide) ?_
        show p % 4 = if 240 ≤ p then p % 4 else 4
        have h : (if 240 ≤ p then p % 4 else 4) < 4 := h
        split at h <;> rename_i h2
        · rw [if_pos h2]
        · omega
      · cases hf
  obtain ⟨v0, H', hr, hk⟩ := chkRun_ok hc
  unfold askOk at hk
  split at hk
  · rename_i c0 c1 c2
    simp only [band_eq, Bool.and_eq_true] at hk
    obtain ⟨k1, k2, k3⟩ := hk
    have l1 : LI val (-250) 5 c0 := okI_ok k1 (by decide) (by decide) (fun i hi => by
      simp only [List.mem_cons, List.mem_nil_iff, or_false] at hi
      rcases hi with rfl | rfl
      · exact ⟨by decide, by decide, _, rfl, by omega, by omega⟩
      · exact ⟨by decide, by decide, _, rfl, by omega, by omega⟩)
    have l2 : LS val c1 := okS_ok k2 (fun i hi => by
      simp only [List.mem_cons, List.mem_nil_iff, or_false] at hi
      rcases hi with rfl | rfl
      · exact ⟨by decide, by decide, u, rfl, hu⟩
      · exact ⟨by decide, by decide, t, rfl, ht⟩)
    have l3 : LS val c2 := okS_ok k3 (fun i hi => by
      simp only [List.mem_cons, List.mem_nil_iff, or_false] at hi
      subst hi
      exact ⟨by decide, by decide, v, rfl, hv⟩)
    obtain ⟨n, e1, n1, n2⟩ := l1.ex
    obtain ⟨s1, e2, h2⟩ := l2.ex
    obtain ⟨s2, e3, h3⟩ := l3.ex
    refine ⟨n, s1, s2, n1, n2, h2, h3, fun w => ?_⟩
    have := run_scal (val := val) (fitT x.facts []) hf rfl hr (l := [c0, c1, c2]) (.inl rfl) (fun u hu => by
      simp only [List.mem_cons, List.mem_nil_iff, or_false] at hu
      rcases hu with rfl | rfl | rfl
      · exact l1.low
      · exact l2.low
      · exact l3.low) ⟨l1.wf, l2.wf, l3.wf, trivial⟩ ⟨⟨sym_wf (by decide), sym_wf (by decide), sym_wf (by decide), trivial⟩, trivial⟩ (w := w) tabs_nil
    have ea : (concs (Bm val) [.agg [.sym 104, .sym 105, .sym 106]]).toArray = #[.agg #[.int .u8 (s : Nat), .int .u8 (a : Nat), .int .u8 (p : Nat)]] := by
      simp only [concs]
      rw [conc, concs, concs, concs, concs, sym_at (by decide) (by decide) (show val 104 = .int .u8 (s : Nat) from rfl) rfl, sym_at (by decide) (by decide) (show val 105 = .int .u8 (a : Nat) from rfl) rfl, sym_at (by decide) (by decide) (show val 106 = .int .u8 (p : Nat) from rfl) rfl]
    have er : conc (Bm val) (.agg [c0, c1, c2]) = .agg #[.int .i64 n, .string s1, .string s2] := by
      rw [conc, concs, concs, concs, concs, e1, e2, e3]
    rw [ea, er] at this
    exact this
  · cases hk
end Go.AEv
