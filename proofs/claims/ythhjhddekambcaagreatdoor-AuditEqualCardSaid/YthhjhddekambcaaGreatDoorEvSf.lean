/- A verified evaluator of loaded Go code, and its soundness: what it computes, the machine does (part Sf). Conditions: the program fits (no goroutine count, mixed orders). -/
import Derived.Test.YthhjhddekambcaaGreatDoorEvSe
/- Contracts out of runs, and facts out of contracts: new rows of bytes and of ints. -/
namespace Go.AEv
set_option linter.unusedSectionVars false

/-- a new slice of these numbers, of this kind -/
structure NewSl (P : Program) (k : IntKind) (t : TypeId) (w w2 : World) (s : ByteArray) (v : Value) (x : Nat × Nat × Nat) (arr : Array Value) (fz : Nat × Nat) : Prop where
  is : v = .slice (some ⟨x.1, x.2.1, none⟩) s.size x.2.2
  new : w.heap.size ≤ x.1
  row : w2.heap[x.1]? = some (.cells arr t fz)
  cap : s.size ≤ x.2.2
  size : x.2.1 + x.2.2 ≤ arr.size
  cell : ∀ i (b : UInt8), s.data[i]? = some b → arr[x.2.1 + i]? = some (.int k b.toNat)
  thaw : ∀ i, i < arr.size → ¬ (fz.1 ≤ i ∧ i < fz.2)
  one : tsize P t = 1
def NewS (P : Program) (k : IntKind) (t : TypeId) (w w2 : World) (s : ByteArray) (v : Value) (b : Nat) : Prop := ∃ x arr fz, x.1 = b ∧ NewSl P k t w w2 s v x arr fz

variable [Unk]
theorem NewSl.text {P : Program} {k : IntKind} {t : TypeId} {w w2 : World} {s : ByteArray} {v : Value} {x : Nat × Nat × Nat} {arr : Array Value} {fz : Nat × Nat} (h : NewSl P k t w w2 s v x arr fz) {γ : Inj} {q : AVal} (hq : WF γ q) (hs : conc γ q = .string s) :
    TextRel P γ k t q x.2.1 x.2.2 arr fz :=
  ⟨hq, ⟨s, hs, h.cap⟩, h.size, fun i b hb => h.cell i b (by rw [hs] at hb; exact hb), h.thaw, h.one⟩

/-- a row of cells that a run has made -/
theorem newSl_cells {P : Program} {γ : Inj} {H' : Heap} {w w2 : World} {b l cp : Nat} {ex : Bool} {r : Row} {s : ByteArray} {k : IntKind} (hR : Rel P γ H' w2) (hb : H'.row b = some r) (hg : (γ b).isSome) (hnew : ∀ x, γ b = some x → w.heap.size ≤ x.1)
    (h1 : tsize P r.t = 1) (hc : cp ≤ r.n) (hl : l = s.size) (hlc : l ≤ cp) (hs : ∀ i (c : UInt8), s.data[i]? = some c → ∃ u, r.c.get i = some u ∧ conc γ u = .int k c.toNat) :
    NewS P k r.t w w2 s (conc γ (.slice b 0 l cp ex)) (γ.blk b) := by
  obtain ⟨x, hx⟩ := Option.isSome_iff_exists.1 hg
  obtain ⟨b0, hb0, ha⟩ := row_eq hb
  obtain ⟨arr, fz, h2, h3⟩ := (asRow_rel ha).1 (hR.blk b b0 x hb0 hx)
  have e1 : γ.blk b = x.1 := by simp [Inj.blk, hx]
  have e2 : γ.sh b = x.2.1 := by simp [Inj.sh, hx]
  have e3 : γ.ext b = x.2.2 := by simp [Inj.ext, hx]
  have hz := h3.size
  rw [h1, Nat.mul_one] at hz
  refine ⟨(x.1, x.2.1, if ex then cp else cp + x.2.2), arr, fz, e1.symm, ?_, hnew x hx, h2, ?_, ?_, ?_, h3.thaw, h1⟩
  · simp [conc, Inj.addr, e1, e2, e3, hl]
  · show s.size ≤ if ex = true then cp else cp + x.2.2
    split <;> omega
  · show x.2.1 + (if ex = true then cp else cp + x.2.2) ≤ arr.size
    split <;> omega
  · intro i c hc
    obtain ⟨u, hu, hv⟩ := hs i c hc
    rw [← hv]
    exact (h3.cell i u hu).2

/-- the map below a number, and what is new -/
def Inj.upto (β : Inj) (N : Nat) (δ : Inj) : Inj := fun id => if id < N then β id else δ id
theorem upto_low {β δ : Inj} {N id : Nat} (h : id < N) : β.upto N δ id = β id := if_pos h
theorem upto_high {β δ : Inj} {N id : Nat} (h : N ≤ id) : β.upto N δ id = δ id := if_neg (by omega)
/-- a scalar whose symbol, if it is one, is below N -/
def lowV (N : Nat) (v : AVal) : Bool := match v with | .sym i => decide (i < N) | .int _ _ => true | .bool _ => true | .str _ => true | .nilslice => true | _ => false
theorem lowV_ok {β γ : Inj} {N : Nat} (hβ : ∀ id, id < N → γ id = β id) {v : AVal} (h : lowV N v = true) (hw : WF β v) : WF γ v ∧ conc γ v = conc β v := by
  cases v
  case sym i =>
    have hi : i < N := by simpa [lowV] using h
    simp only [WF, conc, hβ i hi] at hw ⊢
    exact ⟨hw, trivial⟩
  all_goals first | (cases h; done) | exact ⟨trivial, rfl⟩ | exact ⟨hw, rfl⟩

/-- a call that gives a new row of bytes, as a fact -/
theorem make_text {P : Program} {tabs : List (Nat × ABlk)} {β : Inj} {f : FuncId} {args : List AVal} {N q : Nat} {t : TypeId} {s : ByteArray} (ha : WFs β args) (hq : q < N) (hw : WF β (.sym q)) (hs : conc β (.sym q) = .string s)
    (hc : ∀ w, TabsIn P tabs w → Calls P f (concs β args).toArray w fun e w2 => Grown w w2 ∧ ∃ v b, e = .returned v ∧ NewS P .u8 t w w2 s v b) :
    MakeTrue P tabs β f args N 1 [(N, .text t (.sym q))] (.osl N (.sym q)) := by
  refine ⟨ha, fun p hp => by rw [List.mem_singleton] at hp; subst hp; exact ⟨Nat.le_refl _, Nat.lt_succ_self _, rfl⟩, fun w hwt => (hc w hwt).mono fun e w2 hx => ?_⟩
  obtain ⟨hg, v, b, rfl, x, arr, fz, rfl, hn⟩ := hx
  refine ⟨hg, β.upto N fun id => if id = N then some x else none, ?_⟩
  have eN : (β.upto N fun id => if id = N then some x else none) N = some x := by rw [upto_high (Nat.le_refl _), if_pos rfl]
  obtain ⟨q1, q2⟩ := lowV_ok (β := β) (γ := β.upto N fun id => if id = N then some x else none) (N := N) (fun id hid => upto_low hid) (v := .sym q) (by simpa [lowV] using hq) hw
  rw [hs] at q2
  refine ⟨?_, ?_, ?_⟩
  · rw [hn.is, conc, q2]
    simp [sOf, Inj.addr, Inj.blk, Inj.sh, Inj.ext, eN]
  · exact ⟨by rw [eN]; rfl, q1, s, q2, by simp only [Inj.ext, eN]; exact hn.cap⟩
  · refine ⟨fun id hid y hy => by rw [upto_low hid] at hy; exact hy, fun id hid => by rw [upto_high (by omega), if_neg (by omega)], fun id y hid hy => ?_, fun p hp y hy => ?_, fun p hp p' hp' y y' _ _ _ => ?_⟩
    · rw [upto_high hid] at hy
      split at hy
      · cases hy; exact hn.new
      · cases hy
    · rw [List.mem_singleton] at hp
      subst hp
      rw [eN] at hy
      cases hy
      exact ⟨arr, fz, hn.row, hn.text q1 q2⟩
    · rw [List.mem_singleton] at hp hp'
      subst hp; subst hp'; rfl

/-- how an optional row of ints stands in a result -/
def optV (b : Nat) (q : Nat) : Option ByteArray → AVal
  | none => .nilslice
  | some _ => .osl b (.sym q)
def optR (t : TypeId) (b : Nat) (q : Nat) : Option ByteArray → List (Nat × ABlk)
  | none => []
  | some _ => [(b, .ints t (.sym q))]
def OptS (P : Program) (k : IntKind) (t : TypeId) (w w2 : World) (b : Nat) (v : Value) : Option ByteArray → Prop
  | none => v = .slice none 0 0
  | some s => NewS P k t w w2 s v b
def OptQ (β : Inj) (q : Nat) : Option ByteArray → Prop
  | none => True
  | some s => WF β (.sym q) ∧ conc β (.sym q) = .string s

/-- a call whose result is a struct with two optional rows of ints, as a fact -/
theorem make_two {P : Program} {tabs : List (Nat × ABlk)} {β : Inj} {f : FuncId} {args : List AVal} {N q1 q2 : Nat} {t : TypeId} {o1 o2 : Option ByteArray} {l1 l2 : List AVal} (ha : WFs β args) (h1 : q1 < N) (h2 : q2 < N) (k1 : OptQ β q1 o1) (k2 : OptQ β q2 o2)
    (hl1 : ∀ v ∈ l1, lowV N v = true) (hl2 : ∀ v ∈ l2, lowV N v = true) (hw1 : WFs β l1) (hw2 : WFs β l2)
    (hc : ∀ w, TabsIn P tabs w → Calls P f (concs β args).toArray w fun e w2 => Grown w w2 ∧ ∃ v1 v2 b1 b2, b1 ≠ b2 ∧ e = .returned (.agg (concs β l1 ++ v1 :: v2 :: concs β l2).toArray) ∧ OptS P .i64 t w w2 b1 v1 o1 ∧ OptS P .i64 t w w2 b2 v2 o2) :
    MakeTrue P tabs β f args N 2 (optR t N q1 o1 ++ optR t (N + 1) q2 o2) (.agg (l1 ++ optV N q1 o1 :: optV (N + 1) q2 o2 :: l2)) := by
  have hmem : ∀ p ∈ optR t N q1 o1 ++ optR t (N + 1) q2 o2, (p = (N, .ints t (.sym q1)) ∧ o1.isSome) ∨ (p = (N + 1, .ints t (.sym q2)) ∧ o2.isSome) := by
    intro p hp
    rcases List.mem_append.1 hp with hp | hp
    · cases o1 with
      | none => cases hp
      | some s => exact .inl ⟨List.mem_singleton.1 hp, rfl⟩
    · cases o2 with
      | none => cases hp
      | some s => exact .inr ⟨List.mem_singleton.1 hp, rfl⟩
  refine ⟨ha, fun p hp => ?_, fun w hwt => (hc w hwt).mono fun e w2 hx => ?_⟩
  · rcases hmem p hp with ⟨rfl, _⟩ | ⟨rfl, _⟩
    · exact ⟨Nat.le_refl _, by show N < N + 2; omega, rfl⟩
    · exact ⟨by show N ≤ N + 1; omega, by show N + 1 < N + 2; omega, rfl⟩
  obtain ⟨hg, v1, v2, b1, b2, hne, rfl, hs1, hs2⟩ := hx
  have pick : ∀ {o : Option ByteArray} {v : Value} {b : Nat}, OptS P .i64 t w w2 b v o → ∃ x : Nat × Nat × Nat, (o.isSome → x.1 = b ∧ ∃ s arr fz, o = some s ∧ NewSl P .i64 t w w2 s v x arr fz) := by
    intro o v b h
    cases o with
    | none => exact ⟨(0, 0, 0), fun h => by cases h⟩
    | some s =>
      obtain ⟨x, arr, fz, e, h⟩ := h
      exact ⟨x, fun _ => ⟨e, s, arr, fz, rfl, h⟩⟩
  obtain ⟨x1, hx1⟩ := pick hs1
  obtain ⟨x2, hx2⟩ := pick hs2
  let γ : Inj := β.upto N fun id => if id = N ∧ o1.isSome then some x1 else if id = N + 1 ∧ o2.isSome then some x2 else none
  have lo : ∀ id, id < N → γ id = β id := fun id hid => upto_low hid
  have g1 : o1.isSome → γ N = some x1 := fun h => by
    show β.upto N _ N = _
    rw [upto_high (Nat.le_refl _), if_pos ⟨rfl, h⟩]
  have g2 : o2.isSome → γ (N + 1) = some x2 := fun h => by
    show β.upto N _ (N + 1) = _
    rw [upto_high (Nat.le_succ _), if_neg (by omega), if_pos ⟨rfl, h⟩]
  have symOk : ∀ {q : Nat} {o : Option ByteArray}, q < N → OptQ β q o → ∀ s, o = some s → WF γ (.sym q) ∧ conc γ (.sym q) = .string s := by
    intro q o hq hk s e
    subst e
    obtain ⟨a, b⟩ := lowV_ok (β := β) (γ := γ) (N := N) lo (v := .sym q) (by simpa [lowV] using hq) hk.1
    exact ⟨a, b.trans hk.2⟩
  have val : ∀ {o : Option ByteArray} {v : Value} {b q id : Nat} {x : Nat × Nat × Nat}, q < N → OptQ β q o → OptS P .i64 t w w2 b v o → (o.isSome → γ id = some x) → (o.isSome → x.1 = b ∧ ∃ s arr fz, o = some s ∧ NewSl P .i64 t w w2 s v x arr fz) → WF γ (optV id q o) ∧ conc γ (optV id q o) = v := by
    intro o v b q id x hq hk hs hg hx
    cases o with
    | none => exact ⟨trivial, hs.symm⟩
    | some s =>
      obtain ⟨_, s', arr, fz, e, hn⟩ := hx rfl
      cases e
      obtain ⟨a1, a2⟩ := symOk hq hk s rfl
      have e := hg rfl
      refine ⟨⟨by rw [e]; rfl, a1, s, a2, by simp only [Inj.ext, e]; exact hn.cap⟩, ?_⟩
      show conc γ (.osl id (.sym q)) = v
      rw [hn.is, conc, a2]
      simp [sOf, Inj.addr, Inj.blk, Inj.sh, Inj.ext, e]
  obtain ⟨c1, c2⟩ := val h1 k1 hs1 g1 hx1
  obtain ⟨d1, d2⟩ := val h2 k2 hs2 g2 hx2
  have lows : ∀ l : List AVal, (∀ v ∈ l, lowV N v = true) → WFs β l → WFs γ l ∧ concs γ l = concs β l := by
    intro l
    induction l with
    | nil => intro _ _; exact ⟨trivial, rfl⟩
    | cons a l ih =>
      intro h hw
      obtain ⟨a1, a2⟩ := lowV_ok (β := β) (γ := γ) lo (h a List.mem_cons_self) hw.1
      obtain ⟨b1, b2⟩ := ih (fun v hv => h v (List.mem_cons_of_mem _ hv)) hw.2
      exact ⟨⟨a1, b1⟩, by rw [concs, concs, a2, b2]⟩
  obtain ⟨e1, e2⟩ := lows l1 hl1 hw1
  obtain ⟨f1, f2⟩ := lows l2 hl2 hw2
  refine ⟨hg, γ, ?_, ?_, ?_⟩
  · simp only [conc]
    rw [concs_append, e2, concs, concs, c2, d2, f2]
  · exact WFs_append e1 ⟨c1, d1, f1⟩
  · refine ⟨fun id hid y hy => by rw [lo id hid] at hy; exact hy, fun id hid => ?_, fun id y hid hy => ?_, fun p hp y hy => ?_, fun p hp p' hp' y y' hy hy' e => ?_⟩
    · show β.upto N _ id = _
      rw [upto_high (by omega), if_neg (by omega), if_neg (by omega)]
    · replace hy : β.upto N _ id = some y := hy
      rw [upto_high hid] at hy
      split at hy
      · rename_i h
        cases hy
        obtain ⟨_, s, arr, fz, _, hn⟩ := hx1 h.2
        exact hn.new
      · split at hy
        · rename_i h
          cases hy
          obtain ⟨_, s, arr, fz, _, hn⟩ := hx2 h.2
          exact hn.new
        · cases hy
    · rcases hmem p hp with ⟨rfl, ho⟩ | ⟨rfl, ho⟩
      · obtain ⟨_, s, arr, fz, e, hn⟩ := hx1 ho
        obtain ⟨a1, a2⟩ := symOk h1 k1 s e
        rw [g1 ho] at hy
        cases hy
        exact ⟨arr, fz, hn.row, hn.text a1 a2⟩
      · obtain ⟨_, s, arr, fz, e, hn⟩ := hx2 ho
        obtain ⟨a1, a2⟩ := symOk h2 k2 s e
        rw [g2 ho] at hy
        cases hy
        exact ⟨arr, fz, hn.row, hn.text a1 a2⟩
    · rcases hmem p hp with ⟨rfl, ho⟩ | ⟨rfl, ho⟩ <;> rcases hmem p' hp' with ⟨rfl, ho'⟩ | ⟨rfl, ho'⟩
      · rfl
      · rw [g1 ho] at hy; rw [g2 ho'] at hy'; cases hy; cases hy'
        exact absurd ((hx1 ho).1.symm.trans (e.trans (hx2 ho').1)) hne
      · rw [g2 ho] at hy; rw [g1 ho'] at hy'; cases hy; cases hy'
        exact absurd ((hx1 ho').1.symm.trans (e.symm.trans (hx2 ho).1)) hne
      · rfl

/-! ### Facts about calls at rows, out of contracts -/
theorem Rel.same {P : Program} {β : Inj} {H H' : Heap} {w : World} (h : Rel P β H w) (hg : ∀ id, H'.blk.get id = H.blk.get id) (hn : H'.next = H.next) : Rel P β H' w where
  base := by rw [hn]; exact h.base
  blk := fun id b x h1 h2 => h.blk id b x (by rw [← hg]; exact h1) h2
  inj := fun i j b c x y h1 h2 h3 h4 e => h.inj i j b c x y (by rw [← hg]; exact h1) h2 (by rw [← hg]; exact h3) h4 e
  bnd := fun id x hx => by rw [hn]; exact h.bnd id x hx
  live := fun id b hb => by rw [hn]; exact h.live id b (by rw [← hg]; exact hb)
theorem Ext.same {β γ : Inj} {H H1 H2 : Heap} {w w' : World} (h : Ext β H w γ H1 w') (hg : ∀ id, H2.blk.get id = H1.blk.get id) (hn : H2.next = H1.next) : Ext β H w γ H2 w' where
  old := h.old
  next := by rw [hn]; exact h.next
  apart := fun id h1 h2 => (hg id).trans (h.apart id h1 h2)
  gone := fun id b h1 h2 => h.gone id b h1 (by rw [← hg]; exact h2)
  ro := fun id h1 => (hg id).trans (h.ro id h1)
  new := h.new
  frame := h.frame
  size := h.size
  tape := h.tape
  os := h.os
  output := h.output

theorem memoH_get {H : Heap} {rin : List (Nat × ABlk)} {n : Nat} (hin : ∀ p ∈ rin, H.blk.get p.1 = some p.2) (hs : ∀ t, ∀ p ∈ rin, (putAll rin t).get p.1 = some p.2) (id : Nat) : (memoH H rin rin n).blk.get id = H.blk.get id := by
  show (putAll rin (delAll rin H.blk)).get id = _
  by_cases h : ∃ p ∈ rin, p.1 = id
  · obtain ⟨p, hp, rfl⟩ := h
    rw [hs _ p hp, hin p hp]
  · have h : ∀ p ∈ rin, p.1 ≠ id := fun p hp e => h ⟨p, hp, e⟩
    rw [putAll_out _ _ _ h, delAll_out _ _ _ h]

/-- a call that reads rows, and gives a scalar -/
theorem memo_read {P : Program} {tabs : List (Nat × ABlk)} {β0 : Inj} {f : FuncId} {args : List AVal} {nx : Nat} {rin : List (Nat × ABlk)} {r : AVal} (hs : ∀ t, ∀ p ∈ rin, (putAll rin t).get p.1 = some p.2) (_ : isLit r = true) (hwr : ∀ β, WF β r)
    (hc : ∀ β' H w, β0.le β' → Rel P β' H w → (∀ g, g < 100 → β' g = some (Unk.place g)) → (∀ p ∈ tabs, p.1 < 100 ∧ H.blk.get p.1 = some p.2) → (∀ p ∈ rin, H.blk.get p.1 = some p.2) → WFs β' args →
      Calls P f (concs β' args).toArray w fun e w2 => e = .returned (conc β' r) ∧ Grown w w2) :
    MemoTrue P tabs β0 f args nx rin rin r nx := by
  intro β' H w hle hR hat htabs hnx hin hargs
  refine (hc β' H w hle hR hat htabs hin hargs).mono fun e w2 hx => ?_
  obtain ⟨rfl, hg⟩ := hx
  have hget := memoH_get (n := nx) hin hs
  exact ⟨β', rfl, hwr β', (hR.onlyNew hg).same hget hnx.symm, (Ext.onlyNew hR.bnd hg).same hget hnx.symm⟩

/-- a call that reads rows, and gives a new row of bytes -/
theorem memo_text {P : Program} {tabs : List (Nat × ABlk)} {β0 : Inj} {f : FuncId} {args : List AVal} {nx q : Nat} {t : TypeId} {s : ByteArray} {rin rout : List (Nat × ABlk)} (hs : ∀ t, ∀ p ∈ rin, (putAll rin t).get p.1 = some p.2)
    (ho : rout = (nx, .text t (.sym q)) :: rin) (hlt : ∀ p ∈ rin, p.1 < nx) (hq : WF β0 (.sym q)) (hqs : conc β0 (.sym q) = .string s)
    (hc : ∀ β' H w, β0.le β' → Rel P β' H w → (∀ g, g < 100 → β' g = some (Unk.place g)) → (∀ p ∈ tabs, p.1 < 100 ∧ H.blk.get p.1 = some p.2) → (∀ p ∈ rin, H.blk.get p.1 = some p.2) → WFs β' args →
      Calls P f (concs β' args).toArray w fun e w2 => Grown w w2 ∧ ∃ v b, e = .returned v ∧ NewS P .u8 t w w2 s v b) :
    MemoTrue P tabs β0 f args nx rin rout (.osl nx (.sym q)) (nx + 1) := by
  subst ho
  intro β' H w hle hR hat htabs hnx hin hargs
  refine (hc β' H w hle hR hat htabs hin hargs).mono fun e w2 hx => ?_
  obtain ⟨hg, v, b, rfl, x, arr, fz, rfl, hn⟩ := hx
  subst hnx
  have hf : β' H.next = none := hR.fresh (Nat.le_refl _)
  have hR2 := hR.onlyNew hg
  have hE2 := Ext.onlyNew hR.bnd hg
  obtain ⟨q1, q2⟩ := WF.mono hle _ hq
  rw [hqs] at q2
  have hle' : β'.le (β'.put H.next x) := Inj.put_le hf
  obtain ⟨r1, r2⟩ := WF.mono hle' _ q1
  rw [q2] at r2
  have eN : (β'.put H.next x) H.next = some x := Inj.put_self _ _ _
  have hget : ∀ id, (memoH H rin ((H.next, .text t (.sym q)) :: rin) (H.next + 1)).blk.get id = (H.blk.set H.next (.text t (.sym q))).get id := by
    intro id
    show (Tr.set (putAll rin (delAll rin H.blk)) H.next (.text t (.sym q))).get id = _
    rw [Tr.get_set, Tr.get_set]
    split
    · rfl
    · exact memoH_get (n := 0) hin hs id
  have old : ∀ id y, id ≠ H.next → β'.put H.next x id = some y → β' id = some y := fun id y h1 h2 => by rw [Inj.put_other _ _ h1] at h2; exact h2
  have hlow : ∀ id c y, H.blk.get id = some c → β' id = some y → y.1 < w.heap.size := fun id c y h1 h2 => (hR.blk id c y h1 h2).lt
  have hRel : Rel P (β'.put H.next x) ⟨H.blk.set H.next (.text t (.sym q)), H.next + 1⟩ w2 := by
    refine ⟨Nat.le_succ_of_le hR.base, ?_, ?_, ?_, ?_⟩
    · intro id c y h1 h2
      rw [Tr.get_set] at h1
      split at h1
      · rename_i e
        subst e
        cases h1
        rw [eN] at h2
        cases h2
        exact ⟨arr, fz, hn.row, hn.text r1 r2⟩
      · rename_i e
        exact (hR2.blk id c y h1 (old id y (fun h => e h.symm) h2)).mono hle'
    · intro i j c d y z h1 h2 h3 h4 e
      rw [Tr.get_set] at h1 h3
      split at h1 <;> split at h3
      · rename_i e1 e2; exact .inl (e1.symm.trans e2)
      · rename_i e1 e2
        subst e1
        rw [eN] at h2
        cases h2
        have := hlow j d z h3 (old j z (fun h => e2 h.symm) h4)
        have := hn.new
        omega
      · rename_i e1 e2
        subst e2
        rw [eN] at h4
        cases h4
        have := hlow i c y h1 (old i y (fun h => e1 h.symm) h2)
        have := hn.new
        omega
      · rename_i e1 e2
        exact hR.inj i j c d y z h1 (old i y (fun h => e1 h.symm) h2) h3 (old j z (fun h => e2 h.symm) h4) e
    · intro id y h
      show id < H.next + 1
      by_cases hi : id = H.next
      · omega
      · have := hR.bnd _ _ (old id y hi h); omega
    · intro id c h
      show id < H.next + 1
      replace h : (H.blk.set H.next (.text t (.sym q))).get id = some c := h
      rw [Tr.get_set] at h
      split at h
      · omega
      · have := hR.live _ _ h; omega
  have hExt : Ext β' H w (β'.put H.next x) ⟨H.blk.set H.next (.text t (.sym q)), H.next + 1⟩ w2 := by
    refine ⟨fun id hid => Inj.put_other _ _ (by omega), Nat.le_succ _, fun id hid _ => ?_, fun id c hid h => ?_, fun id hid => ?_, fun id y hid h => ?_, fun c hc _ => hg.old c hc, hg.size, hg.tape, hg.os, hg.output⟩
    · show (H.blk.set H.next (.text t (.sym q))).get id = _
      rw [Tr.get_set, if_neg (by omega)]
    · replace h : (H.blk.set H.next (.text t (.sym q))).get id = some c := h
      rw [Tr.get_set, if_neg (by omega)] at h
      exact ⟨c, h⟩
    · have := hR.base
      show (H.blk.set H.next (.text t (.sym q))).get id = _
      rw [Tr.get_set, if_neg (by omega)]
    · by_cases hi : id = H.next
      · subst hi; rw [eN] at h; cases h; exact .inl hn.new
      · exact absurd (hR.bnd _ _ (old id y hi h)) (by omega)
  refine ⟨β'.put H.next x, ?_, ?_, hRel.same hget rfl, hExt.same hget rfl⟩
  · rw [hn.is, conc, r2]
    simp [sOf, Inj.addr, Inj.blk, Inj.sh, Inj.ext, eN]
  · exact ⟨by rw [eN]; rfl, r1, s, r2, by simp only [Inj.ext, eN]; exact hn.cap⟩
end Go.AEv
/- Symbols that stand for given values, facts about them, and what a run gives. -/
namespace Go.AEv
set_option linter.unusedSectionVars false

def isKept (v : Value) : Bool := match v with | .int _ _ => true | .string _ => true | .bool _ => true | _ => false

/-! ### Facts -/
section
variable [Unk] {P : Program} {tabs : List (Nat × ABlk)} {β : Inj}
theorem f_bin {op : BinOp} {k j : IntKind} {a b r v : AVal} {m n : Int} (ha : WF β a) (hb : WF β b) (hr : WF β r) (e1 : conc β a = .int k m) (e2 : conc β b = .int j n) (h : intOp op k m j n = some v) (hv : conc β v = conc β r) : FactTrue P tabs β (.bin op a b r) := by
  refine ⟨ha, hb, hr, by rw [e1]; rfl, fun t w => ?_⟩
  rw [e1, e2, ← hv]
  exact (run_intOp h t β w).1
theorem f_rem {k : IntKind} {a r : AVal} {m c : Nat} (ha : WF β a) (hr : WF β r) (e1 : conc β a = .int k (m : Nat)) (hc : c ≠ 0) (er : conc β r = .int k (m % c : Nat)) : FactTrue P tabs β (.bin .rem a (.int k (.ofNat c)) r) := by
  refine f_bin (k := k) (j := k) (m := (m : Nat)) (n := (c : Nat)) ha trivial hr e1 rfl (v := mkInt k (itmod (m : Nat) (c : Nat))) ?_ ?_
  · show ifB (ibeq (c : Nat) (.ofNat 0)) none (same k k (mkInt k (itmod (m : Nat) (c : Nat)))) = _
    have : ibeq ((c : Nat) : Int) (.ofNat 0) = false := by
      rw [ibeq_eq]
      simpa using hc
    rw [this, ifB_false]
    unfold same
    rw [ifB_eq, if_pos ((kbeq_eq _ _).2 rfl)]
  · rw [mkInt_eq, itmod_eq, er]
    rfl
theorem wrapI {n : Int} (h1 : -9223372036854775808 ≤ n) (h2 : n ≤ 9223372036854775807) : IntKind.i64.wrap n = n := by
  unfold IntKind.wrap
  simp only [IntKind.signed, IntKind.bits, Bool.true_and]
  split
  · rename_i h
    have h := of_decide_eq_true h
    omega
  · rename_i h
    have h : n % 18446744073709551616 < 9223372036854775808 := by simpa using h
    show n % 18446744073709551616 = n
    omega
theorem wrapU {n : Int} (h1 : 0 ≤ n) (h2 : n < 18446744073709551616) : IntKind.u64.wrap n = n := by
  unfold IntKind.wrap
  simp only [IntKind.signed, IntKind.bits, Bool.false_and]
  show n % 18446744073709551616 = n
  omega
theorem f_conv {k j : IntKind} {a r : AVal} {n : Int} (ha : WF β a) (hr : WF β r) (e1 : conc β a = .int j n) (e2 : conc β r = .int k n) (h : k.wrap n = n) : FactTrue P tabs β (.conv k a r) :=
  ⟨ha, hr, j, n, e1, by rw [e2, h]⟩
theorem f_eqI {k : IntKind} {a b : AVal} {m n : Int} {r : Bool} (ha : WF β a) (hb : WF β b) (e1 : conc β a = .int k m) (e2 : conc β b = .int k n) (hr : r = (m == n)) : FactTrue P tabs β (.eq 1 a b r) := ⟨ha, hb, .inl ⟨rfl, k, m, n, e1, e2, hr⟩⟩
theorem f_eqS {a b : AVal} {s t : ByteArray} {r : Bool} (ha : WF β a) (hb : WF β b) (e1 : conc β a = .string s) (e2 : conc β b = .string t) (hr : r = decide (s = t)) : FactTrue P tabs β (.eq 2 a b r) := ⟨ha, hb, .inr (.inl ⟨rfl, s, t, e1, e2, hr⟩)⟩
theorem f_eqB {a b : AVal} {s t : Bool} {r : Bool} (ha : WF β a) (hb : WF β b) (e1 : conc β a = .bool s) (e2 : conc β b = .bool t) (hr : r = (s == t)) : FactTrue P tabs β (.eq 3 a b r) := ⟨ha, hb, .inr (.inr ⟨rfl, s, t, e1, e2, hr⟩)⟩
theorem f_min {k : IntKind} {a b r : AVal} {m n : Int} (ha : WF β a) (hb : WF β b) (hr : WF β r) (e1 : conc β a = .int k m) (e2 : conc β b = .int k n) (e : conc β r = .int k (if n < m then n else m)) : FactTrue P tabs β (.min a b r) := ⟨ha, hb, hr, k, m, n, e1, e2, e⟩
theorem f_max {k : IntKind} {a b r : AVal} {m n : Int} (ha : WF β a) (hb : WF β b) (hr : WF β r) (e1 : conc β a = .int k m) (e2 : conc β b = .int k n) (e : conc β r = .int k (if m < n then n else m)) : FactTrue P tabs β (.max a b r) := ⟨ha, hb, hr, k, m, n, e1, e2, e⟩
theorem f_len {a r : AVal} {s : ByteArray} (ha : WF β a) (hr : WF β r) (e1 : conc β a = .string s) (e2 : conc β r = .int .i64 (s.size : Nat)) : FactTrue P tabs β (.len a r) := ⟨ha, hr, s, e1, e2⟩
theorem f_slen {a r : AVal} {p : Option Addr} {n c : Nat} (ha : WF β a) (hr : WF β r) (e1 : conc β a = .slice p n c) (e2 : conc β r = .int .i64 (n : Nat)) : FactTrue P tabs β (.slen a r) := ⟨ha, hr, p, n, c, e1, e2⟩
theorem f_ssub {a h r : AVal} {p : Option Addr} {n c k : Nat} {j : IntKind} (ha : WF β a) (hh : WF β h) (hr : WF β r) (e1 : conc β a = .slice p n c) (e2 : conc β h = .int j (Int.ofNat k)) (hk : k ≤ c) (e3 : conc β r = .slice p k c) : FactTrue P tabs β (.ssub a h r) := ⟨ha, hh, hr, p, n, c, j, k, e1, e2, hk, e3⟩
theorem f_cat {a b r : AVal} {s t : ByteArray} (ha : WF β a) (hb : WF β b) (hr : WF β r) (e1 : conc β a = .string s) (e2 : conc β b = .string t) (e : conc β r = .string (s ++ t)) (h : s.size + t.size ≤ 1000000000) : FactTrue P tabs β (.bin .add a b r) := by
  refine ⟨ha, hb, hr, by rw [e1]; rfl, fun _ w => ?_⟩
  rw [e1, e2, e]
  show (Op.stringOp .add s t).run P w = _
  have hm : IntKind.i64.max = 9223372036854775807 := rfl
  simp only [Op.stringOp]
  rw [if_neg (by rw [hm]; omega)]
  rfl
theorem f_gtr {a : AVal} {m : Nat} {c : Nat} (ha : WF β a) (e1 : conc β a = .int .i64 (m : Nat)) (h : m ≤ c) : FactTrue P tabs β (.bin .gtr a (.int .i64 (.ofNat c)) (.bool false)) := by
  refine f_bin (k := .i64) (j := .i64) (m := (m : Nat)) (n := (c : Nat)) ha trivial trivial e1 rfl (v := mkBool (ilt (c : Nat) (m : Nat))) rfl ?_
  rw [ilt_eq, mkBool_eq]
  have : decide (((c : Nat) : Int) < ((m : Nat) : Int)) = false := by simpa using h
  rw [this]
theorem tabs_nil {w : World} : TabsIn P [] w := ⟨fun id => some (Unk.place id), fun _ _ => rfl, fun p hp => by cases hp⟩
theorem TabsIn.sub {tabs' : List (Nat × ABlk)} {w : World} (h : TabsIn P tabs w) (hs : ∀ p ∈ tabs', p ∈ tabs) : TabsIn P tabs' w := by
  obtain ⟨β, h1, h2⟩ := h
  exact ⟨β, h1, fun p hp => h2 p (hs p hp)⟩
theorem CallTrue.sub {tabs' : List (Nat × ABlk)} {f : FuncId} {args : List AVal} {r : AVal} (h : CallTrue P tabs' β f args r) (hs : ∀ p ∈ tabs', p ∈ tabs) : CallTrue P tabs β f args r := ⟨h.1, h.2.1, fun w hw => h.2.2 w (hw.sub hs)⟩
theorem MakeTrue.sub {tabs' : List (Nat × ABlk)} {f : FuncId} {args : List AVal} {N n : Nat} {rows : List (Nat × ABlk)} {r : AVal} (h : MakeTrue P tabs' β f args N n rows r) (hs : ∀ p ∈ tabs', p ∈ tabs) : MakeTrue P tabs β f args N n rows r := ⟨h.1, h.2.1, fun w hw => h.2.2 w (hw.sub hs)⟩
end

/-! ### Symbols by a table of values: those from 100 to 299 -/
section
variable [Unk]
theorem kept_sym {v : Value} (h : isKept v = true) : ∃ z, symVal z = v := by
  cases v <;> first | exact symVal_int _ _ | exact symVal_str _ | exact symVal_bool _ | (cases h; done)
noncomputable def codeOf (v : Value) : Nat × Nat × Nat := Classical.epsilon fun z => symVal z = v
theorem codeOf_ok {v : Value} (h : isKept v = true) : symVal (codeOf v) = v := Classical.epsilon_spec (kept_sym h)
noncomputable def sigOf (val : Nat → Value) : Inj := fun id => if 100 ≤ id ∧ id < 300 then some (codeOf (val id)) else none
noncomputable abbrev Bm (val : Nat → Value) : Inj := baseMap (sigOf val)
variable {val : Nat → Value}
theorem sig_lt : ∀ id z, sigOf val id = some z → id < 300 := by
  intro id z h
  unfold sigOf at h
  split at h
  · rename_i h1; omega
  · cases h
theorem sig_some {id : Nat} (h1 : 100 ≤ id) (h2 : id < 300) : Bm val id = some (codeOf (val id)) := by
  show baseMap (sigOf val) id = _
  unfold baseMap sigOf
  rw [if_neg (by omega), if_pos ⟨h1, h2⟩]
theorem sig_low {id : Nat} (h1 : id < 100) : Bm val id = some (Unk.place id) := by
  show baseMap (sigOf val) id = _
  unfold baseMap
  rw [if_pos h1]
theorem sym_wf {id : Nat} (h2 : id < 300) : WF (Bm val) (.sym id) := by
  by_cases h1 : 100 ≤ id
  · simp [WF, sig_some h1 h2]
  · simp [WF, sig_low (val := val) (id := id) (by omega)]
theorem sym_val {id : Nat} (h1 : 100 ≤ id) (h2 : id < 300) (hk : isKept (val id) = true) : conc (Bm val) (.sym id) = val id := by
  simp only [conc, sig_some h1 h2, Option.getD_some]
  exact codeOf_ok hk
theorem sym_at {id : Nat} {v : Value} (h1 : 100 ≤ id) (h2 : id < 300) (e : val id = v) (hk : isKept v = true) : conc (Bm val) (.sym id) = v := by
  rw [sym_val h1 h2 (by rw [e]; exact hk), e]
theorem sym_low {id : Nat} (h1 : id < 100) : conc (Bm val) (.sym id) = symVal (Unk.place id) := by
  simp only [conc, sig_low h1, Option.getD_some]
end
end Go.AEv
/- What a run gives whose result is a struct with two optional rows of small ints. -/
namespace Go.AEv
set_option linter.unusedSectionVars false

noncomputable section
/-- an int between 0 and 64, or a symbol that stands for one -/
def okE (v : AVal) : Bool := match v with | .int k n => band (isI64 k) (band (bnot (ilt n (.ofNat 0))) (bnot (ilt (.ofNat 64) n))) | .sym i => band (Nat.ble 132 i) (Nat.blt i 140) | _ => false
def isZ64 (v : AVal) : Bool := match v with | .int k n => band (isI64 k) (ibeq n (.ofNat 0)) | _ => false
def okRow (r : Row) (l cp : Nat) : Bool := band (Nat.beq r.t 3) (band (Nat.ble cp r.n) (band (Nat.ble l cp) (band (Nat.blt 0 l) (obind (Tr.gets l r.c 0) false fun cs => ifB (Nat.ble l 5) (allA okE cs) (band (Nat.beq l 64) (allA isZ64 cs))))))
def okStr (b : Nat) (v : AVal) (H : Heap) : Bool := obind (asSym v) false fun q => band (band (Nat.ble 142 q) (Nat.blt q 144)) (obind (H.blk.get b) false fun k => obind (asInts k) false fun p => band (Nat.beq p.1 3) (vbeq p.2 v))
def okSl (H : Heap) (v : AVal) : Bool :=
  match v with
  | .nilslice => true
  | .slice b o l cp _ => band (Nat.beq o 0) (band (Nat.ble 300 b) (obind (H.row b) false fun r => okRow r l cp))
  | .osl b s => band (Nat.ble 300 b) (okStr b s H)
  | _ => false
def blkOf (v : AVal) : Option Nat := match v with | .slice b _ _ _ _ => some b | .osl b _ => some b | _ => none
def neSl (v w : AVal) : Bool := obind (blkOf v) true fun b => obind (blkOf w) true fun c => bnot (Nat.beq b c)
end
/-- the small number that stands in a cell -/
def elemNat (val : Nat → Value) (u : AVal) : Nat := match u with | .int _ n => n.toNat | .sym i => natOf (val i) | _ => 0
def elems (val : Nat → Value) (cs : List AVal) : ByteArray := ⟨(cs.map fun u => UInt8.ofNat (elemNat val u)).toArray⟩
def zeros64 : ByteArray := ⟨(List.replicate 64 0).toArray⟩
/-- one to five numbers, none above 64; or 64 zeros -/
def Small (s : ByteArray) : Prop := 0 < s.size ∧ ((s.size ≤ 5 ∧ ∀ (i : Nat) (c : UInt8), s.data[i]? = some c → c.toNat ≤ 64) ∨ s = zeros64)
noncomputable def optOf (val : Nat → Value) (H : Heap) (v : AVal) : Option ByteArray :=
  match v with
  | .slice b _ l _ _ => some (elems val (((H.row b).bind fun r => Tr.gets l r.c 0).getD []))
  | .osl _ (.sym q) => some (sOf (val q))
  | _ => none
def SmallO (o : Option ByteArray) : Prop := ∀ s, o = some s → Small s
/-- what is asked of the symbols -/
structure Vals (val : Nat → Value) : Prop where
  el : ∀ i, 132 ≤ i → i < 140 → ∃ n : Nat, n ≤ 64 ∧ val i = .int .i64 (n : Nat)
  st : ∀ q, 142 ≤ q → q < 144 → ∃ s, val q = .string s ∧ Small s

section
variable [Unk] {P : Program} {val : Nat → Value}
theorem okE_ok {γ : Inj} (hv : Vals val) (hlow : ∀ id, id < 300 → γ id = Bm val id) {u : AVal} (h : okE u = true) : elemNat val u ≤ 64 ∧ conc γ u = .int .i64 (elemNat val u : Nat) := by
  cases u <;> simp only [okE] at h <;> first | (cases h; done) | skip
  · rename_i k n
    simp only [band_eq, Bool.and_eq_true, bnot_eq, ilt_eq] at h
    obtain ⟨h1, h2, h3⟩ := h
    have h1 := isI64_eq h1
    subst h1
    have h2 : ¬ (n < 0) := by simpa using h2
    have h3 : ¬ ((64 : Int) < n) := by
      have := h3
      simp only [Bool.not_eq_true', decide_eq_false_iff_not] at this
      exact this
    refine ⟨by simp only [elemNat]; omega, ?_⟩
    simp only [conc, elemNat]
    congr 1
    omega
  · rename_i i
    simp only [band_eq, Bool.and_eq_true, nble_eq, nblt_eq, decide_eq_true_eq] at h
    obtain ⟨n, hn, e⟩ := hv.el i h.1 h.2
    have e2 : elemNat val (.sym i) = n := by simp [elemNat, e, natOf]
    refine ⟨by rw [e2]; exact hn, ?_⟩
    rw [e2]
    have : conc γ (.sym i) = conc (Bm val) (.sym i) := by simp only [conc, hlow i (by omega)]
    rw [this]
    exact sym_at (by omega) (by omega) e rfl
theorem elems_size (cs : List AVal) : (elems val cs).size = cs.length := by simp [elems, ByteArray.size]
theorem elems_get (cs : List AVal) (i : Nat) : (elems val cs).data[i]? = (cs[i]?).map fun u => UInt8.ofNat (elemNat val u) := by simp [elems]
theorem isZ64_ok {γ : Inj} {u : AVal} (h : isZ64 u = true) : elemNat val u = 0 ∧ conc γ u = .int .i64 (elemNat val u : Nat) := by
  cases u <;> simp only [isZ64] at h <;> first | (cases h; done) | skip
  rename_i k n
  rw [band_eq, Bool.and_eq_true, ibeq_eq] at h
  have h1 := isI64_eq h.1
  subst h1
  have h2 : n = 0 := by simpa using h.2
  subst h2
  exact ⟨rfl, rfl⟩
theorem okRow_ok {r : Row} {l cp : Nat} (h : okRow r l cp = true) : r.t = 3 ∧ cp ≤ r.n ∧ l ≤ cp ∧ 0 < l ∧ ∃ cs, Tr.gets l r.c 0 = some cs ∧ ((l ≤ 5 ∧ ∀ u ∈ cs, okE u = true) ∨ (l = 64 ∧ ∀ u ∈ cs, isZ64 u = true)) := by
  unfold okRow at h
  simp only [band_eq, Bool.and_eq_true, nbeq_eq, beq_iff_eq, nble_eq, nblt_eq, decide_eq_true_eq] at h
  obtain ⟨h1, h2, h3, h4, h6⟩ := h
  cases hg : Tr.gets l r.c 0 with
  | none => rw [hg] at h6; cases h6
  | some cs =>
    rw [hg, obind_some, ifB_eq] at h6
    refine ⟨h1, h2, h3, h4, cs, rfl, ?_⟩
    split at h6
    · rename_i h5
      rw [decide_eq_true_eq] at h5
      rw [allA_eq] at h6
      exact .inl ⟨h5, List.all_eq_true.1 h6⟩
    · rw [Bool.and_eq_true, beq_iff_eq, allA_eq] at h6
      exact .inr ⟨h6.1, List.all_eq_true.1 h6.2⟩
theorem rowE {γ : Inj} (hv : Vals val) (hlow : ∀ id, id < 300 → γ id = Bm val id) {l : Nat} {cs : List AVal} (h : (l ≤ 5 ∧ ∀ u ∈ cs, okE u = true) ∨ (l = 64 ∧ ∀ u ∈ cs, isZ64 u = true)) : ∀ u ∈ cs, elemNat val u ≤ 64 ∧ conc γ u = .int .i64 (elemNat val u : Nat) := by
  intro u hu
  rcases h with ⟨_, h⟩ | ⟨_, h⟩
  · exact okE_ok hv hlow (h u hu)
  · obtain ⟨a, b⟩ := isZ64_ok (val := val) (γ := γ) (h u hu)
    exact ⟨by omega, b⟩
theorem small_elems {γ : Inj} (hv : Vals val) (hlow : ∀ id, id < 300 → γ id = Bm val id) {l : Nat} {cs : List AVal} (hl : cs.length = l) (h0 : 0 < l) (h : (l ≤ 5 ∧ ∀ u ∈ cs, okE u = true) ∨ (l = 64 ∧ ∀ u ∈ cs, isZ64 u = true)) : Small (elems val cs) := by
  refine ⟨by rw [elems_size]; omega, ?_⟩
  rcases h with ⟨h5, h⟩ | ⟨h5, h⟩
  · refine .inl ⟨by rw [elems_size]; omega, fun i c hc => ?_⟩
    rw [elems_get] at hc
    obtain ⟨u, hu, rfl⟩ := Option.map_eq_some_iff.1 hc
    have := (okE_ok hv hlow (h u (List.mem_of_getElem? hu))).1
    rw [UInt8.toNat_ofNat']
    omega
  · refine .inr ?_
    unfold elems zeros64
    have : cs.map (fun u => UInt8.ofNat (elemNat val u)) = List.replicate 64 0 := by
      rw [List.eq_replicate_iff]
      refine ⟨by rw [List.length_map]; omega, fun b hb => ?_⟩
      obtain ⟨u, hu, rfl⟩ := List.mem_map.1 hb
      rw [(isZ64_ok (val := val) (γ := γ) (h u hu)).1]
      rfl
    rw [this]
theorem okStr_ok {b : Nat} {v : AVal} {H : Heap} (h : okStr b v H = true) : ∃ q, v = .sym q ∧ 142 ≤ q ∧ q < 144 ∧ H.blk.get b = some (.ints 3 (.sym q)) := by
  unfold okStr at h
  cases hq : asSym v with
  | none => rw [hq] at h; cases h
  | some q =>
    rw [hq, obind_some] at h
    have := asSym_eq hq
    subst this
    simp only [band_eq, Bool.and_eq_true, nble_eq, nblt_eq, decide_eq_true_eq] at h
    obtain ⟨⟨h1, h2⟩, h3⟩ := h
    cases hb : H.blk.get b with
    | none => rw [hb] at h3; cases h3
    | some k =>
      rw [hb, obind_some] at h3
      cases hk : asInts k with
      | none => rw [hk] at h3; cases h3
      | some p =>
        rw [hk, obind_some] at h3
        simp only [Bool.and_eq_true, nbeq_eq, beq_iff_eq] at h3
        have := asInts_eq hk
        subst this
        have h4 := vbeq_eq _ _ h3.2
        refine ⟨q, rfl, h1, h2, ?_⟩
        rw [h3.1, h4]

theorem sl_small {γ : Inj} {H' : Heap} (hv : Vals val) (hlow : ∀ id, id < 300 → γ id = Bm val id) {c : AVal} (hc : okSl H' c = true) : SmallO (optOf val H' c) := by
  intro s hs
  cases c <;> simp only [okSl] at hc <;> first | (cases hc; done) | skip
  · cases hs
  · rename_i b o l cp ex
    simp only [band_eq, Bool.and_eq_true] at hc
    obtain ⟨_, _, h3⟩ := hc
    cases hr : H'.row b with
    | none => rw [hr] at h3; cases h3
    | some r =>
      rw [hr, obind_some] at h3
      obtain ⟨_, _, _, a4, cs, a6, a7⟩ := okRow_ok h3
      simp only [optOf, hr, Option.bind_some, a6, Option.getD_some, Option.some.injEq] at hs
      subst hs
      have hl := (Tr.gets_spec _ _ _ _ a6).1
      exact small_elems hv hlow hl a4 a7
  · rename_i b v
    simp only [band_eq, Bool.and_eq_true] at hc
    obtain ⟨q, rfl, h1, h2, _⟩ := okStr_ok hc.2
    obtain ⟨u, hu, hsm⟩ := hv.st q h1 h2
    simp only [optOf, hu, sOf, Option.some.injEq] at hs
    subst hs
    exact hsm
theorem sl_opt {γ : Inj} {H' : Heap} {w w2 : World} (hv : Vals val) (h1 : tsize P 3 = 1) (hR : Rel P γ H' w2) (hnew : ∀ id x, 300 ≤ id → γ id = some x → w.heap.size ≤ x.1) (hlow : ∀ id, id < 300 → γ id = Bm val id) {c : AVal} (hc : okSl H' c = true) (hw : WF γ c) :
    OptS P .i64 3 w w2 (((blkOf c).map γ.blk).getD 0) (conc γ c) (optOf val H' c) := by
  cases c <;> simp only [okSl] at hc <;> first | (cases hc; done) | skip
  · rfl
  · rename_i b o l cp ex
    simp only [band_eq, Bool.and_eq_true, nbeq_eq, beq_iff_eq, nble_eq, decide_eq_true_eq] at hc
    obtain ⟨rfl, h2, h3⟩ := hc
    cases hr : H'.row b with
    | none => rw [hr] at h3; cases h3
    | some r =>
      rw [hr, obind_some] at h3
      obtain ⟨a1, a2, a3, a4, cs, a6, a7⟩ := okRow_ok h3
      have a8 := rowE hv hlow a7
      have hsp := Tr.gets_spec _ _ _ _ a6
      simp only [optOf, hr, Option.bind_some, a6, Option.getD_some, OptS, blkOf, Option.map_some]
      have := newSl_cells (P := P) (γ := γ) (H' := H') (w := w) (w2 := w2) (b := b) (l := l) (cp := cp) (ex := ex) (r := r) (s := elems val cs) (k := .i64) hR hr hw.1 (fun x hx => hnew b x h2 hx) (by rw [a1]; exact h1) a2 (by rw [elems_size]; exact hsp.1.symm) a3 (fun i c hc => by
        rw [elems_get] at hc
        obtain ⟨u, hu, rfl⟩ := Option.map_eq_some_iff.1 hc
        obtain ⟨k1, k2⟩ := a8 u (List.mem_of_getElem? hu)
        have hi : i < l := by have := (List.getElem?_eq_some_iff.1 hu).1; omega
        refine ⟨u, ?_, ?_⟩
        · have := hsp.2 i hi
          rw [Nat.zero_add] at this
          rw [this]; exact hu
        · rw [k2, UInt8.toNat_ofNat', Nat.mod_eq_of_lt (by omega)])
      rw [a1] at this
      exact this
  · rename_i b v
    simp only [band_eq, Bool.and_eq_true, nble_eq, decide_eq_true_eq] at hc
    obtain ⟨q, rfl, q1, q2, hb⟩ := okStr_ok hc.2
    obtain ⟨u, hu, hsm⟩ := hv.st q q1 q2
    obtain ⟨x, hx⟩ := Option.isSome_iff_exists.1 hw.1
    obtain ⟨arr, fz, a1, a2⟩ := hR.blk b _ x hb hx
    have e1 : γ.blk b = x.1 := by simp [Inj.blk, hx]
    have e2 : γ.sh b = x.2.1 := by simp [Inj.sh, hx]
    have e3 : γ.ext b = x.2.2 := by simp [Inj.ext, hx]
    have ec : conc γ (.sym q) = .string u := by
      have : conc γ (.sym q) = conc (Bm val) (.sym q) := by simp only [conc, hlow q (by omega)]
      rw [this]
      exact sym_at (by omega) (by omega) hu rfl
    simp only [optOf, hu, sOf, OptS, blkOf, Option.map_some, Option.getD_some]
    refine ⟨x, arr, fz, e1.symm, ?_, hnew b x hc.1 hx, a1, ?_, a2.size, fun i c hc => a2.cell i c (by rw [ec]; exact hc), a2.thaw, h1⟩
    · rw [conc, ec]
      simp [sOf, Inj.addr, e1, e2, e3]
    · obtain ⟨s', hs', hle⟩ := a2.is
      rw [ec] at hs'
      cases hs'
      exact hle

theorem low_concs {γ : Inj} (hlow : ∀ id, id < 300 → γ id = Bm val id) : ∀ {l : List AVal}, (∀ v ∈ l, lowV 300 v = true) → WFs (Bm val) l → concs γ l = concs (Bm val) l
  | [], _, _ => rfl
  | a :: l, h, hw => by
    obtain ⟨_, a2⟩ := lowV_ok (β := Bm val) (γ := γ) hlow (h a List.mem_cons_self) hw.1
    rw [concs, concs, a2, low_concs hlow (fun v hv => h v (List.mem_cons_of_mem _ hv)) hw.2]

theorem run_two {E : Env} (hF : Fit E) (hv : Vals val) (hfacts : FactsOk E (Bm val)) (hcl : closedTabs E.tabs = true) (h1 : tsize E.P 3 = 1) {fuel : Nat} {f : FuncId} {args l1 l2 : List AVal} {c d : AVal} {H' : Heap}
    (hrun : abody E (arec E fuel) f args (startH E 300) = some (.agg (l1 ++ c :: d :: l2), H')) (hl1 : ∀ v ∈ l1, lowV 300 v = true) (hl2 : ∀ v ∈ l2, lowV 300 v = true) (hw1 : WFs (Bm val) l1) (hw2 : WFs (Bm val) l2)
    (hc : okSl H' c = true) (hd : okSl H' d = true) (hne : neSl c d = true) (hargs : WFs (Bm val) args) :
    SmallO (optOf val H' c) ∧ SmallO (optOf val H' d) ∧ ∀ w, TabsIn E.P E.tabs w → Calls E.P f (concs (Bm val) args).toArray w fun e w2 => Grown w w2 ∧ ∃ v1 v2 b1 b2, b1 ≠ b2 ∧
      e = .returned (.agg (concs (Bm val) l1 ++ v1 :: v2 :: concs (Bm val) l2).toArray) ∧ OptS E.P .i64 3 w w2 b1 v1 (optOf val H' c) ∧ OptS E.P .i64 3 w w2 b2 v2 (optOf val H' d) := by
  refine ⟨sl_small hv (fun _ _ => rfl) hc, sl_small hv (fun _ _ => rfl) hd, fun w hw => ?_⟩
  refine (calls_of_run hF (by decide) sig_lt hfacts hcl hrun hargs hw).mono fun e w2 hx => ?_
  obtain ⟨hg, γ, rfl, a1, a2, a3, a4⟩ := hx
  have a1 : WFs γ (l1 ++ c :: d :: l2) := a1
  rw [WFs_iff] at a1
  have wc : WF γ c := a1 c (by simp)
  have wd : WF γ d := a1 d (by simp)
  have s1 := sl_opt hv h1 a3 a4 a2 hc wc
  have s2 := sl_opt hv h1 a3 a4 a2 hd wd
  refine ⟨hg, conc γ c, conc γ d, ?_⟩
  have hval : conc γ (.agg (l1 ++ c :: d :: l2)) = .agg (concs (Bm val) l1 ++ conc γ c :: conc γ d :: concs (Bm val) l2).toArray := by
    simp only [conc]
    rw [concs_append, concs, concs, low_concs a2 hl1 hw1, low_concs a2 hl2 hw2]
  rw [hval]
  have free : ∀ {x : AVal} {n : Nat}, blkOf x = none → OptS E.P .i64 3 w w2 n (conc γ x) (optOf val H' x) → ∀ m, OptS E.P .i64 3 w w2 m (conc γ x) (optOf val H' x) := by
    intro x n hx h m
    cases x <;> first | (cases hx; done) | exact h
  cases hbc : blkOf c with
  | none =>
    rw [hbc] at s1
    exact ⟨_ + 1, _, Nat.succ_ne_self _, rfl, free hbc s1 _, s2⟩
  | some b =>
    cases hbd : blkOf d with
    | none =>
      rw [hbd] at s2
      exact ⟨_, _ + 1, (Nat.succ_ne_self _).symm, rfl, s1, free hbd s2 _⟩
    | some b' =>
      rw [hbc] at s1
      rw [hbd] at s2
      refine ⟨_, _, ?_, rfl, s1, s2⟩
      unfold neSl at hne
      rw [hbc, hbd, obind_some, obind_some, bnot_eq, nbeq_eq] at hne
      have hne : b ≠ b' := by simpa using hne
      have at_ : ∀ {x : AVal} {n : Nat}, blkOf x = some n → okSl H' x = true → WF γ x → ∃ k y, H'.blk.get n = some k ∧ γ n = some y ∧ 300 ≤ n := by
        intro x n hx hok hwx
        cases x <;> simp only [blkOf] at hx <;> first | (cases hx; done) | skip
        · cases hx
          simp only [okSl, band_eq, Bool.and_eq_true, nble_eq, decide_eq_true_eq] at hok
          obtain ⟨_, g2, g3⟩ := hok
          obtain ⟨y, hy⟩ := Option.isSome_iff_exists.1 hwx.1
          cases hr : H'.row n with
          | none => rw [hr] at g3; cases g3
          | some r =>
            obtain ⟨k, hk, _⟩ := row_eq hr
            exact ⟨k, y, hk, hy, g2⟩
        · cases hx
          simp only [okSl, band_eq, Bool.and_eq_true, nble_eq, decide_eq_true_eq] at hok
          obtain ⟨q, rfl, _, _, hb⟩ := okStr_ok hok.2
          obtain ⟨y, hy⟩ := Option.isSome_iff_exists.1 hwx.1
          exact ⟨_, y, hb, hy, hok.1⟩
      obtain ⟨k, y, hk, hy, hge⟩ := at_ hbc hc wc
      obtain ⟨k', y', hk', hy', _⟩ := at_ hbd hd wd
      intro e
      have e : y.1 = y'.1 := by
        have e1 : γ.blk b = y.1 := by simp [Inj.blk, hy]
        have e2 : γ.blk b' = y'.1 := by simp [Inj.blk, hy']
        simp only [Option.map_some, Option.getD_some] at e
        rw [← e1, ← e2]; exact e
      exact hne (a3.injW (.inl (by omega)) hk hy hk' hy' e)
end
end Go.AEv
