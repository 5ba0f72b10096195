/- Which records are equal: the bytes of a record, as the call gives them. Conditions: its numbers are in their bounds, its texts short, its lists lie in memory. -/
import Derived.Test.YthhjhddekambcaaGreatDoorAEPR
import Derived.Test.YthhjhddekambcaaGreatDoorAEDH
namespace Go.AEv
open Go.Proofs
open Go.AuditPlain (put putInt putBytes putFlag numbers zig)
set_option linter.unusedSectionVars false

def cnt (o : Option ByteArray) : Nat := match o with | none => 0 | some _ => 1
/-- a list, as it is handed in: nil, or in its row -/
structure Slot (w : World) (v : Value) (o : Option ByteArray) (x : Nat × Nat × Nat) (s : ByteArray) : Prop where
  none_ : o = none → v = .slice none 0 0
  some_ : ∀ t, o = some t → s = t ∧ ∃ arr fz, SlAt w t v x arr fz
theorem slot_of {w : World} {v : Value} {o : Option ByteArray} (h : AtS w v o) : ∃ x s, Slot w v o x s := by
  cases o with
  | none => exact ⟨(0, 0, 0), .empty, fun _ => h, fun t ht => by cases ht⟩
  | some t =>
    obtain ⟨x, arr, fz, hx⟩ := h
    exact ⟨x, t, (fun ht => by cases ht), fun u hu => by cases hu; exact ⟨rfl, arr, fz, hx⟩⟩
theorem slot_val [Unk] {val : Nat → Value} {w : World} {v : Value} {o : Option ByteArray} {x : Nat × Nat × Nat} {s : ByteArray} (h : Slot w v o x s) {b q : Nat} (hb : b < 100) (hq : q < 100) (pb : Unk.place b = x) (pq : Unk.place q = strCode s) :
    WF (Bm val) (osl1b b q (cnt o)) ∧ conc (Bm val) (osl1b b q (cnt o)) = v := by
  cases o with
  | none => exact ⟨trivial, (h.none_ rfl).symm⟩
  | some t =>
    obtain ⟨rfl, arr, fz, hx⟩ := h.some_ t rfl
    have e1 : Bm val b = some x := by rw [sig_low hb, pb]
    have e2 : conc (Bm val) (.sym q) = .string s := by rw [sym_low hq, pq, symVal_code]
    refine ⟨⟨by rw [e1]; rfl, sym_wf (by omega), s, e2, by simp only [Inj.ext, e1]; exact hx.cap⟩, ?_⟩
    show conc (Bm val) (.osl b (.sym q)) = v
    rw [conc, e2, hx.is]
    simp [sOf, Inj.addr, Inj.blk, Inj.sh, Inj.ext, e1]
theorem slot_row [Unk] {w : World} {v : Value} {o : Option ByteArray} {x : Nat × Nat × Nat} {s : ByteArray} (h : Slot w v o x s) {β : Inj} (hβ : ∀ g, g < 100 → β g = some (Unk.place g)) {b q : Nat} (hq : q < 100) (pb : Unk.place b = x) (pq : Unk.place q = strCode s) :
    ∀ p ∈ row1 b q (cnt o), BlkRel Tryz.prog β p.2 (Unk.place p.1) w := by
  intro p hp
  cases o with
  | none => cases hp
  | some t =>
    obtain ⟨rfl, arr, fz, hx⟩ := h.some_ t rfl
    have hp : p ∈ [(b, ABlk.ints 3 (.sym q))] := hp
    rw [List.mem_singleton] at hp
    subst hp
    rw [pb]
    refine ⟨arr, fz, hx.row, hx.text (γ := β) (by show (β q).isSome = true; rw [hβ q hq]; rfl) ?_⟩
    show symVal ((β q).getD (0, 0, 0)) = _
    rw [hβ q hq, pq, Option.getD_some, symVal_code]
theorem slot_at [Unk] {w w' : World} {v : Value} {o : Option ByteArray} {x : Nat × Nat × Nat} {s : ByteArray} (h : Slot w v o x s) {β : Inj} (hβ : ∀ g, g < 100 → β g = some (Unk.place g)) {b q : Nat} (hq : q < 100) (pb : Unk.place b = x) (pq : Unk.place q = strCode s)
    (hr : ∀ p ∈ row1 b q (cnt o), BlkRel Tryz.prog β p.2 (Unk.place p.1) w') : AtS w' v o := by
  cases o with
  | none => exact h.none_ rfl
  | some t =>
    obtain ⟨rfl, arr, fz, hx⟩ := h.some_ t rfl
    obtain ⟨arr', fz', g1, g2⟩ := hr (b, .ints 3 (.sym q)) List.mem_cons_self
    rw [pb] at g1 g2
    have e2 : conc β (.sym q) = .string s := by
      show symVal ((β q).getD (0, 0, 0)) = _
      rw [hβ q hq, pq, Option.getD_some, symVal_code]
    exact ⟨x, arr', fz', hx.is, g1, hx.cap, g2.size, fun i c hc => g2.cell i c (by rw [e2]; exact hc), g2.thaw⟩
theorem bytesAll {o1 o2 : Option ByteArray} : chkBytes (cnt o1) (cnt o2) = true := by
  cases o1 <;> cases o2
  · exact bytes00
  · exact bytes01
  · exact bytes10
  · exact bytes11

theorem bytes_call (R : RecS) (hR : R.Plain) {v1 v2 : Value} {w : World} (h1 : AtS w v1 R.up) (h2 : AtS w v2 R.down) :
    Calls Tryz.prog 7 #[.agg (R.l1 ++ v1 :: v2 :: R.l2).toArray] w fun e w2 => Grown w w2 ∧ ∃ u b, e = .returned u ∧ NewS Tryz.prog .u8 5 w w2 (str R.toRec.bytes) u b := by
  obtain ⟨x1, s1, k1⟩ := slot_of h1
  obtain ⟨x2, s2, k2⟩ := slot_of h2
  letI := unkB x1 x2 s1 s2
  let val := bVal R
  have hnum := hR.number; have hver := hR.version; have hday := hR.day; have husr := hR.user; have hses := hR.session; have hv0 := hR.ver; have hs0 := hR.ses
  have hchk := bytesAll (o1 := R.up) (o2 := R.down)
  unfold chkBytes at hchk
  rw [band_eq, Bool.and_eq_true] at hchk
  obtain ⟨hcl, hchk⟩ := hchk
  have v : ∀ id u, bVal R id = u → isKept u = true → 100 ≤ id → id < 300 → conc (Bm val) (.sym id) = u := fun id u e hk a b => sym_at a b e hk
  have toN : ∀ n : Int, 0 ≤ n → Value.int .u64 n = .int .u64 (n.toNat : Nat) := fun n hn => by rw [Int.toNat_of_nonneg hn]
  have cv : ∀ a r n, bVal R a = .int .i64 n → bVal R r = .int .u64 n → 0 ≤ n → n ≤ 30001 → 100 ≤ a → a < 300 → 100 ≤ r → r < 300 → ∀ tabs, FactTrue Tryz.prog tabs (Bm val) (.conv .u64 (.sym a) (.sym r)) := fun a r n e1 e2 g1 g2 a1 a2 r1 r2 tabs =>
    f_conv (sym_wf a2) (sym_wf r2) (sym_at a1 a2 e1 rfl) (sym_at r1 r2 e2 rfl) (wrapU (by omega) (by omega))
  have pt : ∀ a q n, bVal R a = .int .u64 n → bVal R q = .string (str (put n.toNat)) → 0 ≤ n → n ≤ 30001 → 100 ≤ a → a < 300 → 100 ≤ q → q < 300 → ∀ tabs, FactTrue Tryz.prog tabs (Bm val) (textF 28 [.sym a] q) := fun a q n e1 e2 g1 g2 a1 a2 q1 q2 tabs =>
    text_true (tabs := tabs) q1 q2 e2 ⟨sym_wf a2, trivial⟩ (by simp only [concs]; rw [sym_at a1 a2 e1 rfl, toN n g1]) (fun w _ => put_call (by omega) w)
  have st : ∀ a q s, bVal R a = .string s → bVal R q = .string (str (putBytes (sbytes s))) → s.size ≤ 20 → 100 ≤ a → a < 300 → 100 ≤ q → q < 300 → ∀ tabs, FactTrue Tryz.prog tabs (Bm val) (textF 29 [.sym a] q) := fun a q s e1 e2 g a1 a2 q1 q2 tabs =>
    text_true (tabs := tabs) q1 q2 e2 ⟨sym_wf a2, trivial⟩ (by simp only [concs]; rw [sym_at a1 a2 e1 rfl]) (fun w _ => str_call' g w)
  have fl : ∀ a q b, bVal R a = .bool b → bVal R q = .string (str (putFlag b)) → 100 ≤ a → a < 300 → 100 ≤ q → q < 300 → ∀ tabs, FactTrue Tryz.prog tabs (Bm val) (textF 31 [.sym a] q) := fun a q b e1 e2 a1 a2 q1 q2 tabs =>
    text_true (tabs := tabs) q1 q2 e2 ⟨sym_wf a2, trivial⟩ (by simp only [concs]; rw [sym_at a1 a2 e1 rfl]) (fun w _ => flag_call b w)
  have hup : bVal R (lsym (cnt R.up) 132) = .string (str (numbers (listOf R.up))) := by
    have e0 : bVal R 134 = .string (str (numbers (listOf none))) := rfl
    have e1 : bVal R 132 = .string (str (numbers (listOf R.up))) := rfl
    cases hu : R.up with
    | none => exact e0
    | some t => rw [hu] at e1; exact e1
  have hdn : bVal R (lsym (cnt R.down) 133) = .string (str (numbers (listOf R.down))) := by
    have e0 : bVal R 134 = .string (str (numbers (listOf none))) := rfl
    have e1 : bVal R 133 = .string (str (numbers (listOf R.down))) := rfl
    cases hu : R.down with
    | none => exact e0
    | some t => rw [hu] at e1; exact e1
  have hlu : 132 ≤ lsym (cnt R.up) 132 ∧ lsym (cnt R.up) 132 < 135 := by
    cases R.up with
    | none => exact ⟨by decide, by decide⟩
    | some t => exact (show 132 ≤ 132 ∧ 132 < 135 from ⟨by decide, by decide⟩)
  have hld : 132 ≤ lsym (cnt R.down) 133 ∧ lsym (cnt R.down) 133 < 135 := by
    cases R.down with
    | none => exact ⟨by decide, by decide⟩
    | some t => exact (show 132 ≤ 133 ∧ 133 < 135 from ⟨by decide, by decide⟩)
  have hparts : ∀ (i p : Nat) (b : List Nat), (partsL (cnt R.up) (cnt R.down))[i]? = some p → R.parts[i]? = some b → 100 ≤ p ∧ p < 300 ∧ val p = .string (str b) := by
    intro i p b hp hb
    match i, hp, hb with
    | 0, hp, hb => cases hp; cases hb; exact ⟨by decide, by decide, rfl⟩
    | 1, hp, hb => cases hp; cases hb; exact ⟨by decide, by decide, rfl⟩
    | 2, hp, hb => cases hp; cases hb; exact ⟨by decide, by decide, rfl⟩
    | 3, hp, hb => cases hp; cases hb; exact ⟨by decide, by decide, rfl⟩
    | 4, hp, hb => cases hp; cases hb; exact ⟨by decide, by decide, rfl⟩
    | 5, hp, hb => cases hp; cases hb; exact ⟨by decide, by decide, rfl⟩
    | 6, hp, hb => cases hp; cases hb; exact ⟨by decide, by decide, rfl⟩
    | 7, hp, hb => cases hp; cases hb; exact ⟨by decide, by decide, rfl⟩
    | 8, hp, hb => cases hp; cases hb; exact ⟨by omega, by omega, hup⟩
    | 9, hp, hb => cases hp; cases hb; exact ⟨by omega, by omega, hdn⟩
    | 10, hp, hb => cases hp; cases hb; exact ⟨by decide, by decide, rfl⟩
    | 11, hp, hb => cases hp; cases hb; exact ⟨by decide, by decide, rfl⟩
    | 12, hp, hb => cases hp; cases hb; exact ⟨by decide, by decide, rfl⟩
    | i + 13, hp, hb => cases hp
  have hplen : (partsL (cnt R.up) (cnt R.down)).length = R.parts.length := rfl
  have hfirst : R.first.length ≤ 3 := (put_len (v := R.number.toNat) (by omega)).1
  have hflat : R.parts.flatten.length ≤ 2600 := flat_len R.parts fun b hb => (parts_len hR b hb).1
  have hf : FactsOk (EnvT (bytesF (cnt R.up) (cnt R.down)) (recT (cnt R.up) (cnt R.down))) (Bm val) := by
    intro f hf
    have hf : f ∈ bytesF (cnt R.up) (cnt R.down) := hf
    unfold bytesF at hf
    have back1 : ∀ w', TabsIn Tryz.prog (recT (cnt R.up) (cnt R.down)) w' → AtS w' v1 R.up := by
      rintro w' ⟨β, e1, e2⟩
      exact slot_at k1 e1 (b := 60) (q := 70) (by decide) rfl rfl fun p hp => e2 p (List.mem_append_left _ hp)
    have back2 : ∀ w', TabsIn Tryz.prog (recT (cnt R.up) (cnt R.down)) w' → AtS w' v2 R.down := by
      rintro w' ⟨β, e1, e2⟩
      exact slot_at k2 e1 (b := 61) (q := 71) (by decide) rfl rfl fun p hp => e2 p (List.mem_append_right _ hp)
    rcases List.mem_append.1 hf with hf | hf
    · rcases List.mem_append.1 hf with hf | hf
      · rcases List.mem_append.1 hf with hf | hf
        · rcases List.mem_append.1 hf with hf | hf
          · simp only [List.mem_cons, List.mem_nil_iff, or_false] at hf
            rcases hf with rfl | rfl | rfl | rfl | rfl | rfl | rfl | rfl | rfl | rfl | rfl | rfl | rfl | rfl | rfl | rfl | rfl | rfl
            · exact cv 100 112 R.number rfl rfl (by omega) (by omega) (by decide) (by decide) (by decide) (by decide) _
            · exact cv 101 113 R.version rfl rfl (by omega) (by omega) (by decide) (by decide) (by decide) (by decide) _
            · exact cv 106 114 R.day rfl rfl (by omega) (by omega) (by decide) (by decide) (by decide) (by decide) _
            · exact cv 108 115 R.user rfl rfl (by omega) (by omega) (by decide) (by decide) (by decide) (by decide) _
            · exact f_conv (sym_wf (by decide)) (sym_wf (by decide)) (v 103 (.int .i64 R.session) rfl rfl (by decide) (by decide)) (v 103 (.int .i64 R.session) rfl rfl (by decide) (by decide)) (wrapI (by omega) (by omega))
            · exact pt 112 120 R.number rfl rfl (by omega) (by omega) (by decide) (by decide) (by decide) (by decide) _
            · exact pt 113 121 R.version rfl rfl (by omega) (by omega) (by decide) (by decide) (by decide) (by decide) _
            · exact pt 114 122 R.day rfl rfl (by omega) (by omega) (by decide) (by decide) (by decide) (by decide) _
            · exact pt 115 123 R.user rfl rfl (by omega) (by omega) (by decide) (by decide) (by decide) (by decide) _
            · exact st 102 124 R.tenant rfl rfl hR.tenant (by decide) (by decide) (by decide) (by decide) _
            · exact st 104 125 R.action rfl rfl hR.action (by decide) (by decide) (by decide) (by decide) _
            · exact st 105 126 R.path rfl rfl hR.path (by decide) (by decide) (by decide) (by decide) _
            · exact st 109 127 R.does rfl rfl hR.does (by decide) (by decide) (by decide) (by decide) _
            · exact st 110 128 R.at_ rfl rfl hR.at_ (by decide) (by decide) (by decide) (by decide) _
            · refine text_true (by decide) (by decide) (show val 129 = .string (str (putInt R.session)) from rfl) ⟨sym_wf (by decide), trivial⟩ (vs := #[.int .i64 (R.session.toNat : Nat)]) ?_ (fun w _ => ?_)
              · simp only [concs]
                rw [v 103 (.int .i64 R.session) rfl rfl (by decide) (by decide)]
                rw [Int.toNat_of_nonneg hs0]
              · have := putInt_call (n := R.session.toNat) (by omega) w
                rw [show ((R.session.toNat : Nat) : Int) = R.session by omega] at this ⊢
                exact this
            · exact fl 107 130 R.granted rfl rfl (by decide) (by decide) (by decide) (by decide) _
            · exact fl 111 131 R.deep rfl rfl (by decide) (by decide) (by decide) (by decide) _
            · exact text_true (by decide) (by decide) (show val 134 = .string (str (numbers (listOf none))) from rfl) ⟨trivial, trivial⟩ (vs := #[.slice none 0 0]) rfl (fun w _ => numbers_call (o := none) (fun s hs => by cases hs) rfl)
          · have hf : ∀ n, cnt R.up = n → f ∈ (natC n [] fun _ => [textF 32 [osl1b 60 70 n] 132]) → FactTrue Tryz.prog (recT (cnt R.up) (cnt R.down)) (Bm val) f := by
              intro n hn hf
              cases n with
              | zero => cases hf
              | succ n =>
                have hf : f ∈ [textF 32 [osl1b 60 70 (n + 1)] 132] := hf
                rw [List.mem_singleton] at hf
                subst hf
                rw [← hn]
                obtain ⟨g1, g2⟩ := slot_val (val := val) k1 (b := 60) (q := 70) (by decide) (by decide) rfl rfl
                exact text_true (by decide) (by decide) (show val 132 = .string (str (numbers (listOf R.up))) from rfl) ⟨g1, trivial⟩ (by simp only [concs]; rw [g2]) (fun w' hw' => numbers_call hR.up (back1 w' hw'))
            rename_i hf0
            exact hf _ rfl hf0
        · have hf : ∀ n, cnt R.down = n → f ∈ (natC n [] fun _ => [textF 32 [osl1b 61 71 n] 133]) → FactTrue Tryz.prog (recT (cnt R.up) (cnt R.down)) (Bm val) f := by
            intro n hn hf
            cases n with
            | zero => cases hf
            | succ n =>
              have hf : f ∈ [textF 32 [osl1b 61 71 (n + 1)] 133] := hf
              rw [List.mem_singleton] at hf
              subst hf
              rw [← hn]
              obtain ⟨g1, g2⟩ := slot_val (val := val) k2 (b := 61) (q := 71) (by decide) (by decide) rfl rfl
              exact text_true (by decide) (by decide) (show val 133 = .string (str (numbers (listOf R.down))) from rfl) ⟨g1, trivial⟩ (by simp only [concs]; rw [g2]) (fun w' hw' => numbers_call hR.down (back2 w' hw'))
          rename_i hf0
          exact hf _ rfl hf0
      · obtain ⟨p, hp, rfl⟩ := List.mem_map.1 hf
        obtain ⟨i, hi, e⟩ := List.getElem_of_mem hp
        have hi2 : i < R.parts.length := hi
        have hpi : (partsL (cnt R.up) (cnt R.down))[i]? = some p := by rw [List.getElem?_eq_getElem hi, e]
        obtain ⟨g1, g2, g3⟩ := hparts i p _ hpi (List.getElem?_eq_getElem hi2)
        exact some_true g1 g2 g3 (by rw [str_size]; exact (parts_len hR _ (List.getElem_mem hi2)).2)
    · refine cats_true (partsL (cnt R.up) (cnt R.down)) R.parts 120 140 R.first hplen hparts (by decide) (by decide) rfl (by decide) (by show 140 + 20 + 13 < 300; decide) (fun i hi => ?_) (by rw [List.length_append]; omega) f hf
      have hi : i < 13 := hi
      refine ⟨?_, ?_⟩
      · show bVal R (140 + i) = _
        unfold bVal
        rw [if_pos (by omega), show 140 + i - 139 = i + 1 by omega]
      · show bVal R (160 + i) = _
        unfold bVal
        rw [if_neg (by omega), if_pos (by omega), show 160 + i - 159 = i + 1 by omega]
  have ht : TabsIn Tryz.prog (recT (cnt R.up) (cnt R.down)) w := by
    refine ⟨fun id => some (Unk.place id), fun _ _ => rfl, fun p hp => ?_⟩
    rcases List.mem_append.1 hp with hp | hp
    · exact slot_row k1 (fun _ _ => rfl) (b := 60) (q := 70) (by decide) rfl rfl p hp
    · exact slot_row k2 (fun _ _ => rfl) (b := 61) (q := 71) (by decide) rfl rfl p hp
  obtain ⟨g1, g2⟩ := slot_val (val := val) k1 (b := 60) (q := 70) (by decide) (by decide) rfl rfl
  obtain ⟨g3, g4⟩ := slot_val (val := val) k2 (b := 61) (q := 71) (by decide) (by decide) rfl rfl
  have := run_text (val := val) (E := EnvT (bytesF (cnt R.up) (cnt R.down)) (recT (cnt R.up) (cnt R.down))) (w := w) rfl (fitT _ _) hf hcl hchk (by decide) (by decide) (s := str R.toRec.bytes) (by
    show bVal R 152 = _
    unfold bVal
    rw [if_pos (by omega), RecS.bytes_eq]
    rfl) ⟨⟨sym_wf (by decide), sym_wf (by decide), sym_wf (by decide), sym_wf (by decide), sym_wf (by decide), sym_wf (by decide), sym_wf (by decide), sym_wf (by decide), sym_wf (by decide), g1, g3, sym_wf (by decide), sym_wf (by decide), sym_wf (by decide), trivial⟩, trivial⟩ ht
  have ea : (concs (Bm val) [recV (cnt R.up) (cnt R.down)]).toArray = #[.agg (R.l1 ++ v1 :: v2 :: R.l2).toArray] := by
    unfold recV
    rw [concs, concs, conc_agg]
    simp only [concs]
    rw [g2, g4, v 100 _ rfl rfl (by decide) (by decide), v 101 _ rfl rfl (by decide) (by decide), v 102 _ rfl rfl (by decide) (by decide), v 103 _ rfl rfl (by decide) (by decide), v 104 _ rfl rfl (by decide) (by decide), v 105 _ rfl rfl (by decide) (by decide), v 106 _ rfl rfl (by decide) (by decide),
      v 107 _ rfl rfl (by decide) (by decide), v 108 _ rfl rfl (by decide) (by decide), v 109 _ rfl rfl (by decide) (by decide), v 110 _ rfl rfl (by decide) (by decide), v 111 _ rfl rfl (by decide) (by decide)]
    rfl
  rw [ea] at this
  exact this
end Go.AEv
