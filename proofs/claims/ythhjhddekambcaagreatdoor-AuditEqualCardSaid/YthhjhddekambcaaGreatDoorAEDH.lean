/- Which records are equal: a chain is what its call gives. Conditions: the slices' bytes lie in memory. -/
import Derived.Test.YthhjhddekambcaaGreatDoorAEC
import Derived.Test.YthhjhddekambcaaGreatDoorAE6
import Derived.Test.YthhjhddekambcaaGreatDoorAE7A
import Derived.Test.YthhjhddekambcaaGreatDoorAE7B
import Derived.Test.YthhjhddekambcaaGreatDoorAE7C
/- Which records are equal: a chain is what its call gives. Conditions: the slices' bytes lie in memory. -/
namespace Go.AEv
open Go.Proofs
set_option linter.unusedSectionVars false

/-- a slice that is handed in, and its first bytes, no more than four -/
structure Sl4 where
  p : Option Addr
  n : Nat
  c : Nat
  bs : List Nat
def Sl4.val (s : Sl4) : Value := .slice s.p s.n s.c
def Sl4.cut (s : Sl4) : Value := .slice s.p 0 s.c
structure Sl4.Ok (s : Sl4) : Prop where
  len : s.bs.length = min s.n 4
  cap : s.n ≤ s.c
  byte : ∀ b ∈ s.bs, b < 256
  ptr : s.bs ≠ [] → ∃ b o, s.p = some ⟨b, o, none⟩
/-- where its bytes lie -/
def Sl4.In (s : Sl4) (w : World) : Prop := ∀ b o, s.p = some ⟨b, o, none⟩ → s.bs ≠ [] → ∃ arr t fz, w.heap[b]? = some (.cells arr t fz) ∧ ∀ i (x : Nat), s.bs[i]? = some x → arr[o + i]? = some (.int .u8 (x : Nat))
/-- where they lie; if there are none: where a package variable does -/
def Sl4.place (s : Sl4) : Nat × Nat × Nat := if s.bs = [] then (1, 0, 0) else match s.p with | some a => (a.block, a.off, s.c - s.bs.length) | none => (1, 0, 0)
def u8At (l : List Nat) (i : Nat) : Nat × Nat × Nat := (4, (l[i]?).getD 0 + 1, 0)
/-- what the symbols below 100 are -/
@[reducible] def unkF (u d : Sl4) : Unk where
  val i := if i = 1000 then u.val else if i = 1001 then d.val else if i = 1002 then u.cut else if i = 1003 then d.cut else .int .u8 0
  plain i := by
    split
    · rfl
    · split
      · rfl
      · split
        · rfl
        · split <;> rfl
  place g := if g = 60 then u.place else if g = 61 then d.place else if g = 70 then (1000, 0, 0) else if g = 71 then (1001, 0, 0) else if g = 80 then (1002, 0, 0) else if g = 81 then (1003, 0, 0)
    else if 72 ≤ g ∧ g < 76 then u8At u.bs (g - 72) else if 76 ≤ g ∧ g < 80 then u8At d.bs (g - 76) else (g, 0, 0)
  glob g hg := by
    rw [if_neg (by omega), if_neg (by omega), if_neg (by omega), if_neg (by omega), if_neg (by omega), if_neg (by omega), if_neg (by omega), if_neg (by omega)]
theorem symVal_u8 [Unk] (l : List Nat) (i : Nat) : symVal (u8At l i) = .int .u8 ((l[i]?).getD 0 : Nat) := by
  simp [u8At, symVal, kOf]

structure FlIn where
  user : Nat
  perm : Nat
  u : Sl4
  d : Sl4
  why : Bool
  s : Int
  a : ByteArray
  p : ByteArray
structure FlIn.Ok (x : FlIn) : Prop where
  user : x.user < 256
  perm : x.perm < 256
  u : x.u.Ok
  d : x.d.Ok
def flVal (x : FlIn) (pa pp : ByteArray) (pd : Bool) (id : Nat) : Value :=
  match id with
  | 107 => .int .u8 (x.user : Nat) | 108 => .int .u8 (x.perm : Nat) | 114 => .int .i64 x.s | 115 => .string x.a | 116 => .string x.p | 117 => .int .u8 (x.user % 7 : Nat) | 118 => .int .i64 (x.user % 7 : Nat)
  | 119 => .string pa | 120 => .string pp | 121 => .bool pd | 122 => .int .i64 (x.u.n : Nat) | 123 => .int .i64 (x.d.n : Nat)
  | 124 => .int .u8 ((x.u.bs[0]?).getD 0 % 8 : Nat) | 125 => .int .u8 ((x.u.bs[1]?).getD 0 % 8 : Nat) | 126 => .int .u8 ((x.u.bs[2]?).getD 0 % 8 : Nat) | 127 => .int .u8 ((x.u.bs[3]?).getD 0 % 8 : Nat)
  | 128 => .int .u8 ((x.d.bs[0]?).getD 0 % 8 : Nat) | 129 => .int .u8 ((x.d.bs[1]?).getD 0 % 8 : Nat) | 130 => .int .u8 ((x.d.bs[2]?).getD 0 % 8 : Nat) | 131 => .int .u8 ((x.d.bs[3]?).getD 0 % 8 : Nat)
  | 132 => .int .i64 ((x.u.bs[0]?).getD 0 % 8 : Nat) | 133 => .int .i64 ((x.u.bs[1]?).getD 0 % 8 : Nat) | 134 => .int .i64 ((x.u.bs[2]?).getD 0 % 8 : Nat) | 135 => .int .i64 ((x.u.bs[3]?).getD 0 % 8 : Nat)
  | 136 => .int .i64 ((x.d.bs[0]?).getD 0 % 8 : Nat) | 137 => .int .i64 ((x.d.bs[1]?).getD 0 % 8 : Nat) | 138 => .int .i64 ((x.d.bs[2]?).getD 0 % 8 : Nat) | 139 => .int .i64 ((x.d.bs[3]?).getD 0 % 8 : Nat)
  | 142 => .string ⟨#[0]⟩ | 143 => .string ⟨#[0]⟩
  | _ => .int .u8 0
theorem small0 : Small ⟨#[0]⟩ := by
  refine ⟨by decide, .inl ⟨by decide, fun i c hc => ?_⟩⟩
  match i, hc with
  | 0, hc => cases hc; decide
theorem flVals (x : FlIn) (pa pp : ByteArray) (pd : Bool) : Vals (flVal x pa pp pd) where
  el i h1 h2 := by
    have : i = 132 ∨ i = 133 ∨ i = 134 ∨ i = 135 ∨ i = 136 ∨ i = 137 ∨ i = 138 ∨ i = 139 := by omega
    rcases this with rfl | rfl | rfl | rfl | rfl | rfl | rfl | rfl <;> exact ⟨_, by omega, rfl⟩
  st q h1 h2 := by
    have : q = 142 ∨ q = 143 := by omega
    rcases this with rfl | rfl <;> exact ⟨_, rfl, small0⟩

theorem bytes_true [Unk] {val : Nat → Value} {tabs : List (Nat × ABlk)} {a b c k : Nat} {l : List Nat} (hk : k ≤ 4) (ha : 72 ≤ a) (ha2 : a + 4 ≤ 80) (hb : 100 ≤ b) (hb2 : b + 4 ≤ 300) (hc : 100 ≤ c) (hc2 : c + 4 ≤ 300)
    (hp : ∀ i, i < 4 → Unk.place (a + i) = u8At l i) (h1 : ∀ i, i < 4 → val (b + i) = .int .u8 ((l[i]?).getD 0 % 8 : Nat)) (h2 : ∀ i, i < 4 → val (c + i) = .int .i64 ((l[i]?).getD 0 % 8 : Nat)) :
    ∀ f ∈ byteF a b c k, FactTrue Tryz.prog tabs (Bm val) f := by
  intro f hf
  unfold byteF at hf
  obtain ⟨i, hi, hf⟩ := List.mem_flatMap.1 hf
  have hi : i < k := List.mem_range.1 hi
  simp only [List.mem_cons, List.mem_nil_iff, or_false] at hf
  have e : conc (Bm val) (.sym (a + i)) = .int .u8 ((l[i]?).getD 0 : Nat) := by rw [sym_low (by omega), hp i (by omega), symVal_u8]
  rcases hf with rfl | rfl
  · exact f_rem (sym_wf (by show a + i < 300; omega)) (sym_wf (by show b + i < 300; omega)) e (by decide) (sym_at (by show 100 ≤ b + i; omega) (by show b + i < 300; omega) (h1 i (by omega)) rfl)
  · exact conv_sym (by show 100 ≤ b + i; omega) (by show b + i < 300; omega) (by show 100 ≤ c + i; omega) (by show c + i < 300; omega) (h1 i (by omega)) (h2 i (by omega)) (by omega)
theorem opq [Unk] {val : Nat → Value} {g m : Nat} {v : Value} (hg : g < 100) (hp : Unk.place g = (m, 0, 0)) (hv : Unk.val m = v) : conc (Bm val) (.sym g) = v := by rw [sym_low hg, hp, symVal_glob, hv]
/-- the first elements of a slice that is handed in -/
theorem pre_true [Unk] {val : Nat → Value} {tabs : List (Nat × ABlk)} {s : Sl4} (hs : s.Ok) {g m r q : Nat} (hg : g < 100) (hr : r < 100) (hq : q < 100) (e1 : conc (Bm val) (.sym g) = s.val) (e2 : conc (Bm val) (.sym q) = s.cut) (hp : Unk.place r = s.place) (_ : m = 0) :
    FactTrue Tryz.prog tabs (Bm val) (.ssub (.sym g) (i64c s.bs.length) (preV r q s.bs.length)) := by
  have hle : s.bs.length ≤ s.c := by have := hs.len; have := hs.cap; omega
  have key : WF (Bm val) (preV r q s.bs.length) ∧ conc (Bm val) (preV r q s.bs.length) = .slice s.p s.bs.length s.c := by
    cases hk : s.bs.length with
    | zero => exact ⟨sym_wf (by omega), e2⟩
    | succ k =>
      obtain ⟨b, o, hb⟩ := hs.ptr (by intro h; rw [h] at hk; cases hk)
      have hpl : Bm val r = some (b, o, s.c - (k + 1)) := by
        rw [sig_low hr, hp]
        unfold Sl4.place
        rw [if_neg (by intro h; rw [h] at hk; cases hk), hb, hk]
      refine ⟨⟨by rw [hpl]; rfl, Nat.le_refl _⟩, ?_⟩
      show conc (Bm val) (.slice r 0 (k + 1) (k + 1) false) = _
      simp only [conc, Inj.addr, Inj.blk, Inj.sh, Inj.ext, hpl, Option.getD_some, hb]
      rw [if_neg (by decide), Nat.add_sub_cancel' (by omega)]
      rfl
  exact f_ssub (sym_wf (by omega)) trivial key.1 e1 (c_i64 _) hle key.2
theorem view_in {u : Sl4} {w : World} (hu : u.Ok) (hin : u.In w) [Unk] {β : Inj} {row a : Nat} (_ : row < 100) (ha2 : a + 4 ≤ 100) (hβ : ∀ g, g < 100 → β g = some (Unk.place g)) (hr : Unk.place row = u.place) (hp : ∀ i, i < 4 → Unk.place (a + i) = u8At u.bs i) :
    ∀ p ∈ viewT row a u.bs.length, BlkRel Tryz.prog β p.2 (Unk.place p.1) w := by
  intro p hpm
  cases hk : u.bs.length with
  | zero => rw [hk] at hpm; cases hpm
  | succ k =>
    rw [hk] at hpm
    have hpm : p ∈ [(row, ABlk.view (Tr.ofList ((List.range (k + 1)).map fun i => .sym (Nat.add a i))))] := hpm
    rw [List.mem_singleton] at hpm
    subst hpm
    obtain ⟨b, o, hb⟩ := hu.ptr (by intro h; rw [h] at hk; cases hk)
    obtain ⟨arr, t, fz, h1, h2⟩ := hin b o hb (by intro h; rw [h] at hk; cases hk)
    have hpl : Unk.place row = (b, o, u.c - u.bs.length) := by rw [hr]; unfold Sl4.place; rw [if_neg (by intro h; rw [h] at hk; cases hk), hb]
    rw [hpl]
    refine ⟨arr, t, fz, h1, fun i v hv => ?_⟩
    rw [Tr.get_ofList, List.getElem?_map] at hv
    obtain ⟨j, hj, rfl⟩ := Option.map_eq_some_iff.1 hv
    have hlt : i < k + 1 := by have := (List.getElem?_eq_some_iff.1 hj).1; simpa using this
    rw [List.getElem?_range hlt] at hj
    cases hj
    have hl4 : u.bs.length ≤ 4 := by have := hu.len; omega
    have hb2 := hβ (a + i) (by omega)
    refine ⟨by show (β (a + i)).isSome = true; rw [hb2]; rfl, ?_⟩
    show arr[o + i]? = some (symVal ((β (a + i)).getD (0, 0, 0)))
    rw [hb2, hp i (by omega), Option.getD_some, symVal_u8]
    have hx : u.bs[i]? = some u.bs[i] := List.getElem?_eq_getElem (by omega)
    rw [h2 i _ hx, hx]
    rfl

def flWhy (x : FlIn) : Nat := if x.why = true then (if x.user % 7 = 1 ∨ x.user % 7 = 2 ∨ x.user % 7 = 3 then x.user % 7 else 4) else 5
def flLeaf (x : FlIn) : Fl := ⟨x.u.bs.length, x.d.bs.length, flWhy x⟩
theorem flLeaf_mem (x : FlIn) (hx : x.Ok) : x.u.bs.length < 5 ∧ flLeaf x ∈ fls x.u.bs.length := by
  have h1 := hx.u.len
  have h2 := hx.d.len
  refine ⟨by omega, ?_⟩
  unfold fls
  refine List.mem_flatMap.2 ⟨x.d.bs.length, List.mem_range.2 (by omega), List.mem_map.2 ⟨flWhy x, ?_, rfl⟩⟩
  unfold flWhy
  simp only [List.mem_cons, List.mem_nil_iff, or_false]
  split
  · split <;> omega
  · omega
theorem fl_facts (x : FlIn) (hx : x.Ok) {pa pp : ByteArray} {pd : Bool} (hc : ∀ w, Calls Tryz.prog 113 #[.int .u8 (x.perm : Nat)] w fun e w2 => Grown w w2 ∧ e = .returned (.agg #[.string pa, .string pp, .bool pd])) {val : Nat → Value}
    (hv : ∀ id, (107 ≤ id ∧ id ≤ 108) ∨ (117 ≤ id ∧ id < 140) → val id = flVal x pa pp pd id) {tabs : List (Nat × ABlk)} :
    ∀ f ∈ (flLeaf x).facts, @FactTrue (unkF x.u x.d) Tryz.prog tabs (@Bm (unkF x.u x.d) val) f := by
  letI := unkF x.u x.d
  intro f hf
  unfold Fl.facts at hf
  have hu4 : x.u.bs.length ≤ 4 := by have := hx.u.len; omega
  have hd4 : x.d.bs.length ≤ 4 := by have := hx.d.len; omega
  have p70 : ∀ val, conc (Bm val) (.sym 70) = x.u.val := fun val => opq (by decide) (show Unk.place 70 = (1000, 0, 0) from rfl) rfl
  have p71 : ∀ val, conc (Bm val) (.sym 71) = x.d.val := fun val => opq (by decide) (show Unk.place 71 = (1001, 0, 0) from rfl) rfl
  have p80 : ∀ val, conc (Bm val) (.sym 80) = x.u.cut := fun val => opq (by decide) (show Unk.place 80 = (1002, 0, 0) from rfl) rfl
  have p81 : ∀ val, conc (Bm val) (.sym 81) = x.d.cut := fun val => opq (by decide) (show Unk.place 81 = (1003, 0, 0) from rfl) rfl
  have v107 : val 107 = .int .u8 (x.user : Nat) := hv 107 (by omega)
  have v117 : val 117 = .int .u8 (x.user % 7 : Nat) := hv 117 (by omega)
  have minE : ∀ n k : Nat, k = min n 4 → (Value.int .i64 (if (4 : Int) < (n : Nat) then 4 else (n : Nat))) = .int .i64 (k : Nat) := by
    intro n k e
    congr 1
    split <;> omega
  rcases List.mem_append.1 hf with hf | hf
  · simp only [List.mem_cons, List.mem_nil_iff, or_false] at hf
    rcases hf with rfl | rfl | rfl | rfl | rfl | rfl | rfl | rfl | rfl | rfl | rfl
    · exact f_slen (sym_wf (by decide)) (sym_wf (by decide)) (p70 val) (sym_at (by decide) (by decide) (hv 122 (by omega)) rfl)
    · exact f_slen (sym_wf (by decide)) (sym_wf (by decide)) (p71 val) (sym_at (by decide) (by decide) (hv 123 (by omega)) rfl)
    · exact f_min (k := .i64) (m := (x.u.n : Nat)) (n := 4) (sym_wf (by decide)) trivial trivial (sym_at (by decide) (by decide) (hv 122 (by omega)) rfl) rfl (by rw [minE _ _ hx.u.len]; rfl)
    · exact f_min (k := .i64) (m := (x.d.n : Nat)) (n := 4) (sym_wf (by decide)) trivial trivial (sym_at (by decide) (by decide) (hv 123 (by omega)) rfl) rfl (by rw [minE _ _ hx.d.len]; rfl)
    · exact pre_true (m := 0) hx.u (by decide) (by decide) (by decide) (p70 val) (p80 val) rfl rfl
    · exact pre_true (m := 0) hx.d (by decide) (by decide) (by decide) (p71 val) (p81 val) rfl rfl
    · exact f_slen (n := 0) (sym_wf (by decide)) trivial (p80 val) rfl
    · exact f_slen (n := 0) (sym_wf (by decide)) trivial (p81 val) rfl
    · show FactTrue Tryz.prog tabs (Bm val) (.bin .rem (.sym 107) (u8c 7) (ifB (Nat.blt (flWhy x) 4) (u8c (flWhy x)) (.sym 117)))
      rw [ifB_eq]
      split
      · rename_i h
        rw [nblt_eq, decide_eq_true_eq] at h
        refine rem_lit (by decide) (by decide) v107 (by decide) ?_
        unfold flWhy at h ⊢
        split at h
        · rename_i hw
          rw [if_pos hw]
          split at h
          · rename_i h2; rw [if_pos h2]
          · omega
        · omega
      · exact rem_sym (by decide) (by decide) (by decide) (by decide) v107 (by decide) v117
    · exact conv_sym (by decide) (by decide) (by decide) (by decide) v117 (hv 118 (by omega)) (by omega)
    · refine call_scal ⟨sym_wf (by decide), trivial⟩ ⟨sym_wf (by decide), sym_wf (by decide), sym_wf (by decide), trivial⟩ ?_ ?_ hc
      · simp only [concs]; rw [sym_at (by decide) (by decide) (show val 108 = .int .u8 (x.perm : Nat) from hv 108 (by omega)) rfl]
      · rw [conc, concs, concs, concs, concs, sym_at (by decide) (by decide) (show val 119 = .string pa from hv 119 (by omega)) rfl, sym_at (by decide) (by decide) (show val 120 = .string pp from hv 120 (by omega)) rfl, sym_at (by decide) (by decide) (show val 121 = .bool pd from hv 121 (by omega)) rfl]
  · rcases List.mem_append.1 hf with hf | hf
    · unfold whyF at hf
      rw [ifB_eq] at hf
      split at hf
      · rename_i h
        rw [nbeq_eq, beq_iff_eq] at h
        have h : flWhy x = 4 := h
        have hne : ¬ (x.user % 7 = 1 ∨ x.user % 7 = 2 ∨ x.user % 7 = 3) := by
          unfold flWhy at h
          split at h
          · split at h <;> omega
          · omega
        simp only [List.mem_cons, List.mem_nil_iff, or_false] at hf
        have eqf : ∀ c : Nat, x.user % 7 ≠ c → FactTrue Tryz.prog tabs (Bm val) (.eq 1 (.sym 117) (u8c c) false) := fun c hc =>
          f_eqI (k := .u8) (sym_wf (by decide)) trivial (sym_at (by decide) (by decide) v117 rfl) (c_u8 c) (by
            symm
            rw [beq_eq_false_iff_ne]
            omega)
        rcases hf with rfl | rfl | rfl
        · exact eqf 1 (by omega)
        · exact eqf 2 (by omega)
        · exact eqf 3 (by omega)
      · cases hf
    · rcases List.mem_append.1 hf with hf | hf
      · refine bytes_true (l := x.u.bs) hu4 (by decide) (by decide) (by decide) (by decide) (by decide) (by decide) (fun i hi => ?_) (fun i hi => ?_) (fun i hi => ?_) f hf
        · have : i = 0 ∨ i = 1 ∨ i = 2 ∨ i = 3 := by omega
          rcases this with rfl | rfl | rfl | rfl <;> rfl
        · rw [hv (124 + i) (by omega)]
          have : i = 0 ∨ i = 1 ∨ i = 2 ∨ i = 3 := by omega
          rcases this with rfl | rfl | rfl | rfl <;> rfl
        · rw [hv (132 + i) (by omega)]
          have : i = 0 ∨ i = 1 ∨ i = 2 ∨ i = 3 := by omega
          rcases this with rfl | rfl | rfl | rfl <;> rfl
      · refine bytes_true (l := x.d.bs) hd4 (by decide) (by decide) (by decide) (by decide) (by decide) (by decide) (fun i hi => ?_) (fun i hi => ?_) (fun i hi => ?_) f hf
        · have : i = 0 ∨ i = 1 ∨ i = 2 ∨ i = 3 := by omega
          rcases this with rfl | rfl | rfl | rfl <;> rfl
        · rw [hv (128 + i) (by omega)]
          have : i = 0 ∨ i = 1 ∨ i = 2 ∨ i = 3 := by omega
          rcases this with rfl | rfl | rfl | rfl <;> rfl
        · rw [hv (136 + i) (by omega)]
          have : i = 0 ∨ i = 1 ∨ i = 2 ∨ i = 3 := by omega
          rcases this with rfl | rfl | rfl | rfl <;> rfl
theorem fl_tabs (x : FlIn) (hx : x.Ok) {w : World} (hu : x.u.In w) (hd : x.d.In w) : @TabsIn (unkF x.u x.d) Tryz.prog (flLeaf x).tabs w := by
  letI := unkF x.u x.d
  refine ⟨fun id => some (Unk.place id), fun _ _ => rfl, fun p hp => ?_⟩
  rcases List.mem_append.1 hp with hp | hp
  · refine view_in hx.u hu (a := 72) (row := 60) (by decide) (by decide) (fun _ _ => rfl) rfl (fun i hi => ?_) p hp
    have : i = 0 ∨ i = 1 ∨ i = 2 ∨ i = 3 := by omega
    rcases this with rfl | rfl | rfl | rfl <;> rfl
  · refine view_in hx.d hd (a := 76) (row := 61) (by decide) (by decide) (fun _ _ => rfl) rfl (fun i hi => ?_) p hp
    have : i = 0 ∨ i = 1 ∨ i = 2 ∨ i = 3 := by omega
    rcases this with rfl | rfl | rfl | rfl <;> rfl
end Go.AEv
/- Which records are equal: an item is a record, which its call gives. Conditions: the slices' bytes lie in memory. -/
namespace Go.AEv
open Go.Proofs
set_option linter.unusedSectionVars false

theorem flAll {k : Nat} (h : k < 5) : chkFls k = true := by
  have : k = 0 ∨ k = 1 ∨ k = 2 ∨ k = 3 ∨ k = 4 := by omega
  rcases this with rfl | rfl | rfl | rfl | rfl
  · exact fl0
  · exact fl1
  · exact fl2
  · exact fl3
  · exact fl4
/-- the specification's state without anything -/
def zst : List Value := [.int .i64 0, .slice none 0 0, .slice none 0 0, .int .u64 0, .slice none 0 0, .slice none 0 0, .slice none 0 0, .slice none 0 0, .slice none 0 0, .slice none 0 0]
theorem zst_conc [Unk] (β : Inj) : concs β zeroState = zst := rfl
theorem zst_wf [Unk] (β : Inj) : WFs β zeroState := ⟨trivial, trivial, trivial, trivial, trivial, trivial, trivial, trivial, trivial, trivial, trivial⟩
def FlIn.args (x : FlIn) : Array Value := #[.agg #[.int .u8 (x.user : Nat), .int .u8 (x.perm : Nat), x.u.val, x.d.val, .bool x.why], .agg zst.toArray, .agg #[.int .i64 x.s, .string x.a, .string x.p]]
/-- a struct with two optional rows of ints -/
def TwoRet (w w2 : World) (l1 l2 : List Value) (o1 o2 : Option ByteArray) (e : Ending) : Prop :=
  ∃ v1 v2 b1 b2, b1 ≠ b2 ∧ e = .returned (.agg (l1 ++ v1 :: v2 :: l2).toArray) ∧ OptS Tryz.prog .i64 3 w w2 b1 v1 o1 ∧ OptS Tryz.prog .i64 3 w w2 b2 v2 o2

theorem fl_call (x : FlIn) (hx : x.Ok) : ∃ (n : Int) (pa pp : ByteArray) (pd : Bool) (o1 o2 : Option ByteArray), 0 ≤ n ∧ n ≤ 6 ∧ pa.size ≤ 20 ∧ pp.size ≤ 20 ∧ SmallO o1 ∧ SmallO o2 ∧
    ∀ w, x.u.In w → x.d.In w → Calls Tryz.prog 26 x.args w fun e w2 => Grown w w2 ∧ TwoRet w w2 [.int .i64 n] [.string pa, .string pp, .bool pd] o1 o2 e := by
  obtain ⟨pa, pp, pd, z1, z2, hc⟩ := perm_call (n := x.perm) (allN_ok pm1 x.perm (rng_mem (Nat.zero_le _) (by have := hx.perm; omega)))
  letI := unkF x.u x.d
  let val := flVal x pa pp pd
  obtain ⟨m1, m2⟩ := flLeaf_mem x hx
  have hchk : chkFl (flLeaf x) = true := recAll (p := chkFl) (l := fls x.u.bs.length) (flAll m1) (flLeaf x) m2
  unfold chkFl at hchk
  rw [band_eq, Bool.and_eq_true] at hchk
  obtain ⟨hcl, hchk⟩ := hchk
  have hf : FactsOk (EnvT (flLeaf x).facts (flLeaf x).tabs) (Bm val) := fun f hf => fl_facts x hx hc (val := val) (fun _ _ => rfl) f hf
  obtain ⟨v0, H', hr, hk⟩ := chkRun_ok hchk
  unfold flOk at hk
  split at hk
  · rename_i a c d p q b
    simp only [band_eq, Bool.and_eq_true] at hk
    obtain ⟨k1, k2, k3, k4, k5, k6, k7⟩ := hk
    have l1 : LI val 0 6 a := okI_ok k1 (by decide) (by decide) (fun i hi => by
      simp only [List.mem_cons, List.mem_nil_iff, or_false] at hi
      subst hi
      exact ⟨by decide, by decide, _, rfl, by omega, by omega⟩)
    have l2 : LS val p := okS_ok k5 (fun i hi => by
      simp only [List.mem_cons, List.mem_nil_iff, or_false] at hi
      subst hi
      exact ⟨by decide, by decide, pa, rfl, z1⟩)
    have l3 : LS val q := okS_ok k6 (fun i hi => by
      simp only [List.mem_cons, List.mem_nil_iff, or_false] at hi
      subst hi
      exact ⟨by decide, by decide, pp, rfl, z2⟩)
    have l4 : LB val b := okB_ok k7 (fun i hi => by
      simp only [List.mem_cons, List.mem_nil_iff, or_false] at hi
      subst hi
      exact ⟨by decide, by decide, pd, rfl⟩)
    obtain ⟨n, e1, n1, n2⟩ := l1.ex
    obtain ⟨s1, e2, h2⟩ := l2.ex
    obtain ⟨s2, e3, h3⟩ := l3.ex
    obtain ⟨b0, e4⟩ := l4.ex
    have hargs : WFs (Bm val) (flLeaf x).args := ⟨⟨sym_wf (by decide), sym_wf (by decide), sym_wf (by decide), sym_wf (by decide), by unfold whyV; rw [ifB_eq]; split <;> trivial, trivial⟩, zst_wf _, ⟨sym_wf (by decide), sym_wf (by decide), sym_wf (by decide), trivial⟩, trivial⟩
    obtain ⟨r1, r2, r3⟩ := run_two (l1 := [a]) (l2 := [p, q, b]) (fitT (flLeaf x).facts (flLeaf x).tabs) (flVals x pa pp pd) hf hcl size3 hr (fun u hu => by rw [List.mem_singleton] at hu; rw [hu]; exact l1.low) (fun u hu => by
      simp only [List.mem_cons, List.mem_nil_iff, or_false] at hu
      rcases hu with rfl | rfl | rfl
      · exact l2.low
      · exact l3.low
      · exact l4.low) ⟨l1.wf, trivial⟩ ⟨l2.wf, l3.wf, l4.wf, trivial⟩ k2 k3 k4 hargs
    refine ⟨n, s1, s2, b0, _, _, n1, n2, h2, h3, r1, r2, fun w hu hd => ?_⟩
    have := r3 w (fl_tabs x hx hu hd)
    have ea : (concs (Bm val) (flLeaf x).args).toArray = x.args := by
      have hw : conc (Bm val) (whyV (flWhy x)) = .bool x.why := by
        unfold whyV flWhy
        cases x.why
        · rfl
        · rw [if_pos rfl]
          by_cases h : x.user % 7 = 1 ∨ x.user % 7 = 2 ∨ x.user % 7 = 3
          · rw [if_pos h, ifB_eq, nbeq_eq, if_neg (by rw [beq_iff_eq]; omega)]; rfl
          · rw [if_neg h]; rfl
      have p70 : conc (Bm val) (.sym 70) = x.u.val := opq (by decide) (show Unk.place 70 = (1000, 0, 0) from rfl) rfl
      have p71 : conc (Bm val) (.sym 71) = x.d.val := opq (by decide) (show Unk.place 71 = (1001, 0, 0) from rfl) rfl
      show (concs (Bm val) [.agg [.sym 107, .sym 108, .sym 70, .sym 71, whyV (flWhy x)], .agg zeroState, .agg [.sym 114, .sym 115, .sym 116]]).toArray = _
      simp only [concs]
      rw [conc, conc, conc, zst_conc]
      simp only [concs]
      rw [hw, p70, p71, sym_at (by decide) (by decide) (show val 107 = .int .u8 (x.user : Nat) from rfl) rfl, sym_at (by decide) (by decide) (show val 108 = .int .u8 (x.perm : Nat) from rfl) rfl,
        sym_at (by decide) (by decide) (show val 114 = .int .i64 x.s from rfl) rfl, sym_at (by decide) (by decide) (show val 115 = .string x.a from rfl) rfl, sym_at (by decide) (by decide) (show val 116 = .string x.p from rfl) rfl]
      rfl
    rw [ea] at this
    refine this.mono fun e w2 hx => ⟨hx.1, ?_⟩
    obtain ⟨_, v1, v2, b1, b2, q1, q2, q3, q4⟩ := hx
    refine ⟨v1, v2, b1, b2, q1, ?_, q3, q4⟩
    rw [q2]
    simp only [concs]
    rw [e1, e2, e3, e4]
  · cases hk

/-! ### An item -/
structure ItIn where
  ten : Nat
  ver : Nat
  day : Nat
  odd : Nat
  rs : Nat
  ra : Nat
  rp : Nat
  granted : Bool
  right : Bool
  user : Nat
  perm : Nat
  u : Sl4
  d : Sl4
  why : Bool
structure ItIn.Ok (x : ItIn) : Prop where
  ten : x.ten < 256
  ver : x.ver < 256
  day : x.day < 256
  odd : x.odd < 256
  rs : x.rs < 256
  ra : x.ra < 256
  rp : x.rp < 256
  user : x.user < 256
  perm : x.perm < 256
  u : x.u.Ok
  d : x.d.Ok
def ItIn.vals (x : ItIn) : List Value := [.int .u8 (x.ten : Nat), .int .u8 (x.ver : Nat), .int .u8 (x.day : Nat), .int .u8 (x.odd : Nat), .int .u8 (x.rs : Nat), .int .u8 (x.ra : Nat), .int .u8 (x.rp : Nat), .bool x.granted, .bool x.right,
  .int .u8 (x.user : Nat), .int .u8 (x.perm : Nat), x.u.val, x.d.val, .bool x.why]
def ItIn.args (x : ItIn) : Array Value := #[.agg x.vals.toArray, .int .i64 1, .slice none 0 0]
/-- a record -/
structure RecS where
  number : Int
  version : Int
  tenant : ByteArray
  session : Int
  action : ByteArray
  path : ByteArray
  day : Int
  granted : Bool
  user : Int
  up : Option ByteArray
  down : Option ByteArray
  does : ByteArray
  at_ : ByteArray
  deep : Bool
def RecS.l1 (r : RecS) : List Value := [.int .i64 r.number, .int .i64 r.version, .string r.tenant, .int .i64 r.session, .string r.action, .string r.path, .int .i64 r.day, .bool r.granted, .int .i64 r.user]
def RecS.l2 (r : RecS) : List Value := [.string r.does, .string r.at_, .bool r.deep]
structure RecS.Ok (r : RecS) : Prop where
  number : 1 ≤ r.number ∧ r.number ≤ 2
  version : -1 ≤ r.version ∧ r.version ≤ 4
  tenant : r.tenant.size ≤ 20
  session : -250 ≤ r.session ∧ r.session ≤ 5
  action : r.action.size ≤ 20
  path : r.path.size ≤ 20
  day : 0 ≤ r.day ∧ r.day ≤ 30001
  user : 0 ≤ r.user ∧ r.user ≤ 257
  up : SmallO r.up
  down : SmallO r.down
  does : r.does.size ≤ 20
  at_ : r.at_.size ≤ 20

/-- what the symbols of an item are -/
def itVal (x : ItIn) (s : Int) (a p : ByteArray) (n : Int) (pa pp : ByteArray) (pd : Bool) (o1 o2 : Option ByteArray) (id : Nat) : Value :=
  match id with
  | 100 => .int .u8 (x.ten : Nat) | 101 => .int .u8 (x.ver : Nat) | 102 => .int .u8 (x.day : Nat) | 103 => .int .u8 (x.odd : Nat) | 104 => .int .u8 (x.rs : Nat) | 105 => .int .u8 (x.ra : Nat) | 106 => .int .u8 (x.rp : Nat)
  | 107 => .int .u8 (x.user : Nat) | 108 => .int .u8 (x.perm : Nat) | 110 => .int .u8 (x.ver % 5 : Nat) | 111 => .int .i64 (x.ver % 5 : Nat) | 112 => .int .u8 (x.day % 32 : Nat) | 113 => .int .i64 (x.day % 32 : Nat)
  | 114 => .int .i64 s | 115 => .string a | 116 => .string p | 118 => .int .i64 n | 119 => .string pa | 120 => .string pp | 121 => .bool pd | 140 => .bool x.granted | 141 => .bool x.why
  | 132 => .int .i64 0 | 133 => .int .i64 0 | 134 => .int .i64 0 | 135 => .int .i64 0 | 136 => .int .i64 0 | 137 => .int .i64 0 | 138 => .int .i64 0 | 139 => .int .i64 0
  | 142 => .string (o1.getD ⟨#[0]⟩) | 143 => .string (o2.getD ⟨#[0]⟩) | _ => .int .u8 0
end Go.AEv
/- Which records are equal: an item's call gives a record. Conditions: the slices' bytes lie in memory, and the package variables hold what they should. -/
namespace Go.AEv
open Go.Proofs
set_option linter.unusedSectionVars false

/-! ### Rows of package variables, whatever the symbols are -/
noncomputable def litB (b : ABlk) : Bool := match b with | .cells _ _ c => allTr isLit c | _ => false
theorem isLit_any {U1 U2 : Unk} {β β' : Inj} {v : AVal} (h : isLit v = true) (hw : @WF U1 β v) : @WF U2 β' v ∧ @conc U2 β' v = @conc U1 β v := by
  cases v <;> first | (cases h; done) | exact ⟨trivial, rfl⟩ | exact ⟨hw, rfl⟩
theorem litB_any {U1 U2 : Unk} {P : Program} {β β' : Inj} {b : ABlk} {x : Nat × Nat × Nat} {w : World} (h : litB b = true) (hb : @BlkRel U1 P β b x w) : @BlkRel U2 P β' b x w := by
  cases b <;> first | (cases h; done) | skip
  rename_i t n c
  obtain ⟨arr, fz, h1, h2⟩ := hb
  have g1 := @RowRel.size U1 _ _ _ _ _ _ _ _ _ h2
  have g2 := @RowRel.cell U1 _ _ _ _ _ _ _ _ _ h2
  have g3 := @RowRel.thaw U1 _ _ _ _ _ _ _ _ _ h2
  have g4 := @RowRel.al U1 _ _ _ _ _ _ _ _ _ h2
  refine ⟨arr, fz, h1, @RowRel.mk U2 _ _ _ _ _ _ _ _ _ g1 (fun i v hv => ?_) g3 g4⟩
  obtain ⟨a1, a2⟩ := g2 i v hv
  obtain ⟨b1, b2⟩ := isLit_any (U1 := U1) (U2 := U2) (β' := β') (pget_all _ _ _ h v hv) a1
  exact ⟨b1, by rw [b2]; exact a2⟩
/-- the package variables hold what they should -/
def Tab0 (w : World) : Prop := @TabsIn unk0 Tryz.prog tabs w
theorem tabs_lit : tabs.all (fun p => litB p.2 && Nat.blt p.1 60) = true := by kernel_rfl
theorem tab0_any [Unk] {w : World} {β : Inj} (h : Tab0 w) : ∀ p ∈ tabs, BlkRel Tryz.prog β p.2 (Unk.place p.1) w := by
  intro p hp
  have h1 := List.all_eq_true.1 tabs_lit p hp
  rw [Bool.and_eq_true, nblt_eq, decide_eq_true_eq] at h1
  obtain ⟨β0, _, h3⟩ := h
  have := h3 p hp
  rw [Unk.glob p.1 h1.2]
  exact litB_any h1.1 this
theorem tab0_of {U : Unk} {w : World} {t : List (Nat × ABlk)} (h : @TabsIn U Tryz.prog (tabs ++ t) w) : Tab0 w := by
  obtain ⟨β0, _, h3⟩ := h
  refine ⟨fun id => some (@Unk.place unk0 id), fun _ _ => rfl, fun p hp => ?_⟩
  have h1 := List.all_eq_true.1 tabs_lit p hp
  rw [Bool.and_eq_true, nblt_eq, decide_eq_true_eq] at h1
  have := h3 p (List.mem_append_left _ hp)
  rw [@Unk.glob U p.1 h1.2] at this
  rw [@Unk.glob unk0 p.1 h1.2]
  exact litB_any h1.1 this
theorem tab1_mem : (1, ABlk.cells 371 24 (Tr.ofList (rounds.map fun n => .int .u64 (Int.ofNat n)))) ∈ tabs := List.mem_cons_self

/-! ### Rows that are read alone -/
noncomputable def viewB (a k : Nat) : ABlk := .view (Tr.ofList ((List.range k).map fun i => .sym (a + i)))
theorem viewB_in {s : Sl4} {w : World} (hs : s.Ok) (hin : s.In w) (ht : Tab0 w) [Unk] {β : Inj} {a : Nat} (ha : a + 4 ≤ 100) (hβ : ∀ g, g < 100 → β g = some (Unk.place g)) (hp : ∀ i, i < 4 → Unk.place (a + i) = u8At s.bs i) :
    BlkRel Tryz.prog β (viewB a s.bs.length) s.place w := by
  by_cases h : s.bs = []
  · have hk : s.bs.length = 0 := by rw [h]; rfl
    unfold Sl4.place
    rw [if_pos h, hk]
    obtain ⟨arr, fz, h1, _⟩ := @tab0_any (unk0) w (fun id => some (id, 0, 0)) ht _ tab1_mem
    refine ⟨arr, 371, fz, h1, fun i v hv => ?_⟩
    rw [Tr.get_ofList] at hv
    cases hv
  · have hpos : 0 < s.bs.length := List.length_pos_iff.2 h
    obtain ⟨b, o, hb⟩ := hs.ptr h
    obtain ⟨arr, t, fz, h1, h2⟩ := hin b o hb h
    have hpl : s.place = (b, o, s.c - s.bs.length) := by unfold Sl4.place; rw [if_neg h, hb]
    rw [hpl]
    refine ⟨arr, t, fz, h1, fun i v hv => ?_⟩
    rw [Tr.get_ofList, List.getElem?_map] at hv
    obtain ⟨j, hj, rfl⟩ := Option.map_eq_some_iff.1 hv
    have hlt : i < s.bs.length := by have := (List.getElem?_eq_some_iff.1 hj).1; simpa using this
    rw [List.getElem?_range hlt] at hj
    cases hj
    have hl4 : s.bs.length ≤ 4 := by have := hs.len; omega
    have hb2 := hβ (a + i) (by omega)
    refine ⟨by show (β (a + i)).isSome = true; rw [hb2]; rfl, ?_⟩
    show arr[o + i]? = some (symVal ((β (a + i)).getD (0, 0, 0)))
    rw [hb2, hp i (by omega), Option.getD_some, symVal_u8]
    have hx : s.bs[i]? = some s.bs[i] := List.getElem?_eq_getElem hlt
    rw [h2 i _ hx, hx]
    rfl
theorem in_view {s : Sl4} {w : World} (hs : s.Ok) [Unk] {β : Inj} {a : Nat} (ha : a + 4 ≤ 100) (hβ : ∀ g, g < 100 → β g = some (Unk.place g)) (hp : ∀ i, i < 4 → Unk.place (a + i) = u8At s.bs i)
    (h : BlkRel Tryz.prog β (viewB a s.bs.length) s.place w) : s.In w := by
  intro b o hb hne
  obtain ⟨arr, t, fz, h1, h2⟩ := h
  have hpl : s.place = (b, o, s.c - s.bs.length) := by unfold Sl4.place; rw [if_neg hne, hb]
  rw [hpl] at h1 h2
  refine ⟨arr, t, fz, h1, fun i x hx => ?_⟩
  have hlt := (List.getElem?_eq_some_iff.1 hx).1
  have hl4 : s.bs.length ≤ 4 := by have := hs.len; omega
  have h3 := (h2 i (.sym (a + i)) (by rw [Tr.get_ofList, List.getElem?_map, List.getElem?_range hlt]; rfl)).2
  have h3 : arr[o + i]? = some (symVal ((β (a + i)).getD (0, 0, 0))) := h3
  rw [hβ (a + i) (by omega), hp i (by omega), Option.getD_some, symVal_u8, hx] at h3
  exact h3
theorem placeU (u d : Sl4) (i : Nat) (hi : i < 4) : (unkF u d).place (72 + i) = u8At u.bs i := by
  have : i = 0 ∨ i = 1 ∨ i = 2 ∨ i = 3 := by omega
  rcases this with rfl | rfl | rfl | rfl <;> rfl
theorem placeD (u d : Sl4) (i : Nat) (hi : i < 4) : (unkF u d).place (76 + i) = u8At d.bs i := by
  have : i = 0 ∨ i = 1 ∨ i = 2 ∨ i = 3 := by omega
  rcases this with rfl | rfl | rfl | rfl <;> rfl

/-! ### What comes out -/
theorem fit_out [Unk] {val : Nat → Value} (hv : Vals val) (h111 : ∃ n : Int, val 111 = .int .i64 n ∧ -1 ≤ n ∧ n ≤ 4) (h114 : ∃ n : Int, val 114 = .int .i64 n ∧ -250 ≤ n ∧ n ≤ 5) (h115 : ∃ s, val 115 = .string s ∧ s.size ≤ 20) (h116 : ∃ s, val 116 = .string s ∧ s.size ≤ 20)
    (h113 : ∃ n : Int, val 113 = .int .i64 n ∧ 0 ≤ n ∧ n ≤ 30001) (h118 : ∃ n : Int, val 118 = .int .i64 n ∧ 0 ≤ n ∧ n ≤ 257) (h119 : ∃ s, val 119 = .string s ∧ s.size ≤ 20) (h120 : ∃ s, val 120 = .string s ∧ s.size ≤ 20) (h121 : ∃ b, val 121 = .bool b)
    {l : List Fact} {t : List (Nat × ABlk)} {args : List AVal} (hfacts : FactsOk (EnvT l t) (Bm val)) (hcl : closedTabs t = true) (hchk : chkRun (EnvT l t) 5 args fitOk = true) (hargs : WFs (Bm val) args) :
    ∃ R : RecS, R.Ok ∧ ∀ w, TabsIn Tryz.prog t w → Calls Tryz.prog 5 (concs (Bm val) args).toArray w fun e w2 => Grown w w2 ∧ TwoRet w w2 R.l1 R.l2 R.up R.down e := by
  obtain ⟨v0, H', hr, hk⟩ := chkRun_ok hchk
  unfold fitOk at hk
  split at hk
  · rename_i c0 c1 c2 c3 c4 c5 c6 c7 c8 c9 c10 c11 c12 c13
    simp only [band_eq, Bool.and_eq_true] at hk
    obtain ⟨k0, k1, k2, k3, k4, k5, k6, k7, k8, k9, k10, kn, k11, k12, k13⟩ := hk
    have one : ∀ {Q : Nat → Prop} {j : Nat}, Q j → ∀ i ∈ [j], Q i := fun h i hi => by rw [List.mem_singleton] at hi; rw [hi]; exact h
    have l0 : LI val 1 2 c0 := okI_ok k0 (by decide) (by decide) (fun i hi => by cases hi)
    have l1 : LI val (-1) 4 c1 := okI_ok k1 (by decide) (by decide) (one ⟨by decide, by decide, h111⟩)
    have l2 : LS val c2 := okS_ok k2 (fun i hi => by cases hi)
    have l3 : LI val (-250) 5 c3 := okI_ok k3 (by decide) (by decide) (one ⟨by decide, by decide, h114⟩)
    have l4 : LS val c4 := okS_ok k4 (one ⟨by decide, by decide, h115⟩)
    have l5 : LS val c5 := okS_ok k5 (one ⟨by decide, by decide, h116⟩)
    have l6 : LI val 0 30001 c6 := okI_ok k6 (by decide) (by decide) (one ⟨by decide, by decide, h113⟩)
    have l7 : LB val c7 := okB_ok k7 (fun i hi => by cases hi)
    have l8 : LI val 0 257 c8 := okI_ok k8 (by decide) (by decide) (one ⟨by decide, by decide, h118⟩)
    have l11 : LS val c11 := okS_ok k11 (one ⟨by decide, by decide, h119⟩)
    have l12 : LS val c12 := okS_ok k12 (one ⟨by decide, by decide, h120⟩)
    have l13 : LB val c13 := okB_ok k13 (one ⟨by decide, by decide, h121⟩)
    obtain ⟨n0, e0, r0⟩ := l0.ex
    obtain ⟨n1, e1, r1⟩ := l1.ex
    obtain ⟨n2, e2, r2⟩ := l2.ex
    obtain ⟨n3, e3, r3⟩ := l3.ex
    obtain ⟨n4, e4, r4⟩ := l4.ex
    obtain ⟨n5, e5, r5⟩ := l5.ex
    obtain ⟨n6, e6, r6⟩ := l6.ex
    obtain ⟨n7, e7⟩ := l7.ex
    obtain ⟨n8, e8, r8⟩ := l8.ex
    obtain ⟨n11, e11, r11⟩ := l11.ex
    obtain ⟨n12, e12, r12⟩ := l12.ex
    obtain ⟨n13, e13⟩ := l13.ex
    obtain ⟨q1, q2, q3⟩ := run_two (l1 := [c0, c1, c2, c3, c4, c5, c6, c7, c8]) (l2 := [c11, c12, c13]) (fitT l t) hv hfacts hcl size3 hr (fun u hu => by
      simp only [List.mem_cons, List.mem_nil_iff, or_false] at hu
      rcases hu with rfl | rfl | rfl | rfl | rfl | rfl | rfl | rfl | rfl
      · exact l0.low
      · exact l1.low
      · exact l2.low
      · exact l3.low
      · exact l4.low
      · exact l5.low
      · exact l6.low
      · exact l7.low
      · exact l8.low) (fun u hu => by
      simp only [List.mem_cons, List.mem_nil_iff, or_false] at hu
      rcases hu with rfl | rfl | rfl
      · exact l11.low
      · exact l12.low
      · exact l13.low) ⟨l0.wf, l1.wf, l2.wf, l3.wf, l4.wf, l5.wf, l6.wf, l7.wf, l8.wf, trivial⟩ ⟨l11.wf, l12.wf, l13.wf, trivial⟩ k9 k10 kn hargs
    refine ⟨⟨n0, n1, n2, n3, n4, n5, n6, n7, n8, _, _, n11, n12, n13⟩, ⟨r0, r1, r2, r3, r4, r5, r6, r8, q1, q2, r11, r12⟩, fun w hw => (q3 w hw).mono fun e w2 hx => ⟨hx.1, ?_⟩⟩
    obtain ⟨_, v1, v2, b1, b2, g1, g2, g3, g4⟩ := hx
    refine ⟨v1, v2, b1, b2, g1, ?_, g3, g4⟩
    rw [g2]
    simp only [concs]
    rw [e0, e1, e2, e3, e4, e5, e6, e7, e8, e11, e12, e13]
    rfl
  · cases hk
end Go.AEv
/- Which records are equal: an item's call gives a record, whatever the item is. Conditions: the slices' bytes lie in memory, and the package variables hold what they should. -/
namespace Go.AEv
open Go.Proofs
set_option linter.unusedSectionVars false

def oddOf (x : ItIn) : Nat := if 1 ≤ x.odd ∧ x.odd ≤ 10 then x.odd else 0
theorem oddOf_lt (x : ItIn) : oddOf x < 11 := by unfold oddOf; split <;> omega
theorem it_base (x : ItIn) (_ : x.Ok) {s : Int} {a p : ByteArray} (hc : ∀ w, Calls Tryz.prog 22 #[.agg #[.int .u8 (x.rs : Nat), .int .u8 (x.ra : Nat), .int .u8 (x.rp : Nat)]] w fun e w2 => Grown w w2 ∧ e = .returned (.agg #[.int .i64 s, .string a, .string p]))
    [Unk] {val : Nat → Value} {tabs : List (Nat × ABlk)} {n : Int} {pa pp : ByteArray} {pd : Bool} {o1 o2 : Option ByteArray} (hv : ∀ id, 100 ≤ id → id < 117 → val id = itVal x s a p n pa pp pd o1 o2 id) :
    ∀ f ∈ baseF (x.ten % 3) (oddOf x), FactTrue Tryz.prog tabs (Bm val) f := by
  intro f hf
  unfold baseF at hf
  have v100 : val 100 = .int .u8 (x.ten : Nat) := hv 100 (by decide) (by decide)
  have v101 : val 101 = .int .u8 (x.ver : Nat) := hv 101 (by decide) (by decide)
  have v102 : val 102 = .int .u8 (x.day : Nat) := hv 102 (by decide) (by decide)
  have v103 : val 103 = .int .u8 (x.odd : Nat) := hv 103 (by decide) (by decide)
  have v110 : val 110 = .int .u8 (x.ver % 5 : Nat) := hv 110 (by decide) (by decide)
  have v111 : val 111 = .int .i64 (x.ver % 5 : Nat) := hv 111 (by decide) (by decide)
  have v112 : val 112 = .int .u8 (x.day % 32 : Nat) := hv 112 (by decide) (by decide)
  have v113 : val 113 = .int .i64 (x.day % 32 : Nat) := hv 113 (by decide) (by decide)
  rcases List.mem_append.1 hf with hf | hf
  · simp only [List.mem_cons, List.mem_nil_iff, or_false] at hf
    rcases hf with rfl | rfl | rfl | rfl | rfl | rfl
    · exact rem_sym (by decide) (by decide) (by decide) (by decide) v101 (by decide) v110
    · exact conv_sym (by decide) (by decide) (by decide) (by decide) v110 v111 (by omega)
    · exact rem_lit (by decide) (by decide) v100 (by decide) rfl
    · exact rem_sym (by decide) (by decide) (by decide) (by decide) v102 (by decide) v112
    · exact conv_sym (by decide) (by decide) (by decide) (by decide) v112 v113 (by omega)
    · refine call_scal ⟨⟨sym_wf (by decide), sym_wf (by decide), sym_wf (by decide), trivial⟩, trivial⟩ ⟨sym_wf (by decide), sym_wf (by decide), sym_wf (by decide), trivial⟩ ?_ ?_ hc
      · simp only [concs]
        rw [conc, concs, concs, concs, concs, sym_at (by decide) (by decide) (show val 104 = .int .u8 (x.rs : Nat) from hv 104 (by decide) (by decide)) rfl, sym_at (by decide) (by decide) (show val 105 = .int .u8 (x.ra : Nat) from hv 105 (by decide) (by decide)) rfl, sym_at (by decide) (by decide) (show val 106 = .int .u8 (x.rp : Nat) from hv 106 (by decide) (by decide)) rfl]
      · rw [conc, concs, concs, concs, concs, sym_at (by decide) (by decide) (show val 114 = .int .i64 s from hv 114 (by decide) (by decide)) rfl, sym_at (by decide) (by decide) (show val 115 = .string a from hv 115 (by decide) (by decide)) rfl, sym_at (by decide) (by decide) (show val 116 = .string p from hv 116 (by decide) (by decide)) rfl]
  · have ho : ∀ o, oddOf x = o → f ∈ oddF o → FactTrue Tryz.prog tabs (Bm val) f := by
      intro o ho hf
      cases o with
      | succ o => cases hf
      | zero =>
        have hf : f ∈ (List.range 10).map fun i => Fact.eq 1 (.sym 103) (u8c (Nat.succ i)) false := hf
        obtain ⟨i, hi, rfl⟩ := List.mem_map.1 hf
        have hi : i < 10 := List.mem_range.1 hi
        have hne : ¬ (1 ≤ x.odd ∧ x.odd ≤ 10) := by
          intro h
          unfold oddOf at ho
          rw [if_pos h] at ho
          omega
        refine f_eqI (k := .u8) (sym_wf (by decide)) trivial (sym_at (by decide) (by decide) v103 rfl) (c_u8 (i + 1)) ?_
        symm
        rw [beq_eq_false_iff_ne]
        omega
    exact ho _ rfl hf

theorem conc_agg [Unk] (β : Inj) (l : List AVal) : conc β (.agg l) = .agg (concs β l).toArray := rfl
/-- the item as an argument -/
theorem it_args (x : ItIn) [Unk] {val : Nat → Value} {s : Int} {a p : ByteArray} {n : Int} {pa pp : ByteArray} {pd : Bool} {o1 o2 : Option ByteArray} (hv : ∀ id, (100 ≤ id ∧ id < 117) ∨ 140 ≤ id → val id = itVal x s a p n pa pp pd o1 o2 id)
    (p70 : conc (Bm val) (.sym 70) = x.u.val) (p71 : conc (Bm val) (.sym 71) = x.d.val) {o m : Nat} {why : AVal} (ho : conc (Bm val) (oddV o) = .int .u8 (x.odd : Nat)) (hg : conc (Bm val) (grantedV m) = .bool x.granted) (hr : conc (Bm val) (rightV m) = .bool x.right) (hw : conc (Bm val) why = .bool x.why) :
    (concs (Bm val) (itemV o m why)).toArray = x.args := by
  show (concs (Bm val) [.agg [.sym 100, .sym 101, .sym 102, oddV o, .sym 104, .sym 105, .sym 106, grantedV m, rightV m, .sym 107, .sym 108, .sym 70, .sym 71, why], i64c 1, .nilslice]).toArray = _
  have v : ∀ id w, (100 ≤ id ∧ id < 117) → itVal x s a p n pa pp pd o1 o2 id = w → isKept w = true → conc (Bm val) (.sym id) = w := fun id w h e hk => sym_at h.1 (by omega) ((hv id (.inl h)).trans e) hk
  rw [concs, concs, concs, concs, conc_agg]
  simp only [concs]
  rw [ho, hg, hr, hw, p70, p71, v 100 _ (by decide) rfl rfl, v 101 _ (by decide) rfl rfl, v 102 _ (by decide) rfl rfl, v 104 _ (by decide) rfl rfl, v 105 _ (by decide) rfl rfl, v 106 _ (by decide) rfl rfl, v 107 _ (by decide) rfl rfl, v 108 _ (by decide) rfl rfl]
  rfl
theorem it_wf [Unk] {val : Nat → Value} {o m : Nat} {why : AVal} (hw : WF (Bm val) why) : WFs (Bm val) (itemV o m why) := by
  refine ⟨⟨sym_wf (by decide), sym_wf (by decide), sym_wf (by decide), ?_, sym_wf (by decide), sym_wf (by decide), sym_wf (by decide), ?_, ?_, sym_wf (by decide), sym_wf (by decide), sym_wf (by decide), sym_wf (by decide), hw, trivial⟩, trivial, trivial, trivial⟩
  · cases o with
    | zero => exact sym_wf (by decide)
    | succ o => trivial
  · match m with
    | 0 => exact sym_wf (by decide)
    | 1 => trivial
    | m + 2 => trivial
  · cases m <;> trivial
theorem odd_conc (x : ItIn) [Unk] {val : Nat → Value} (h : val 103 = .int .u8 (x.odd : Nat)) : conc (Bm val) (oddV (oddOf x)) = .int .u8 (x.odd : Nat) := by
  unfold oddOf
  split
  · rename_i ho
    cases hk : x.odd with
    | zero => omega
    | succ k => rfl
  · exact sym_at (by decide) (by decide) h rfl

theorem six_ok {t k : Nat} (h : chkItem6s t k = true) : ∀ y ∈ fls k, chkItem6 t y = true := recAll (p := chkItem6 t) (l := fls k) h
theorem sixAll {t k : Nat} (ht : t = 0 ∨ t = 1 ∨ t = 2) (hk : k = 0 ∨ k = 1 ∨ k = 2 ∨ k = 3 ∨ k = 4) : chkItem6s t k = true := by
  rcases ht with rfl | rfl | rfl <;> rcases hk with rfl | rfl | rfl | rfl | rfl
  · exact six00
  · exact six01
  · exact six02
  · exact six03
  · exact six04
  · exact six10
  · exact six11
  · exact six12
  · exact six13
  · exact six14
  · exact six20
  · exact six21
  · exact six22
  · exact six23
  · exact six24
theorem closedV : (List.range 5).all (fun k => (List.range 5).all fun l => closedTabs (tabs ++ [(60, viewB 72 k), (61, viewB 76 l)])) = true := by kernel_rfl
theorem closedT {k l : Nat} (hk : k < 5) (hl : l < 5) : closedTabs (tabs ++ [(60, viewB 72 k), (61, viewB 76 l)]) = true :=
  List.all_eq_true.1 (List.all_eq_true.1 closedV k (List.mem_range.2 hk)) l (List.mem_range.2 hl)
theorem item_call (x : ItIn) (hx : x.Ok) : ∃ R : RecS, R.Ok ∧ ∀ w, Tab0 w → x.u.In w → x.d.In w → Calls Tryz.prog 5 x.args w fun e w2 => Grown w w2 ∧ TwoRet w w2 R.l1 R.l2 R.up R.down e := by
  obtain ⟨s, a, p, s1, s2, za, zp, hask⟩ := ask_call hx.rs hx.ra hx.rp
  let y : FlIn := ⟨x.user, x.perm, x.u, x.d, x.why, s, a, p⟩
  have hy : y.Ok := ⟨hx.user, hx.perm, hx.u, hx.d⟩
  obtain ⟨n, pa, pp, pd, o1, o2, n1, n2, zpa, zpp, sm1, sm2, hfl⟩ := fl_call y hy
  letI := unkF x.u x.d
  let val := itVal x s a p n pa pp pd o1 o2
  have smg : ∀ o : Option ByteArray, SmallO o → Small (o.getD ⟨#[0]⟩) := by
    intro o ho
    cases o with
    | none => exact small0
    | some t => exact ho t rfl
  have hv : Vals val := by
    refine ⟨fun i h1 h2 => ?_, fun q h1 h2 => ?_⟩
    · have : i = 132 ∨ i = 133 ∨ i = 134 ∨ i = 135 ∨ i = 136 ∨ i = 137 ∨ i = 138 ∨ i = 139 := by omega
      rcases this with rfl | rfl | rfl | rfl | rfl | rfl | rfl | rfl <;> exact ⟨0, by omega, rfl⟩
    · have : q = 142 ∨ q = 143 := by omega
      rcases this with rfl | rfl
      · exact ⟨_, rfl, smg o1 sm1⟩
      · exact ⟨_, rfl, smg o2 sm2⟩
  have p70 : ∀ val, conc (Bm val) (.sym 70) = x.u.val := fun val => opq (by decide) (show Unk.place 70 = (1000, 0, 0) from rfl) rfl
  have p71 : ∀ val, conc (Bm val) (.sym 71) = x.d.val := fun val => opq (by decide) (show Unk.place 71 = (1001, 0, 0) from rfl) rfl
  have h111 : ∃ n : Int, val 111 = .int .i64 n ∧ -1 ≤ n ∧ n ≤ 4 := ⟨(x.ver % 5 : Nat), rfl, by omega, by omega⟩
  have h113 : ∃ n : Int, val 113 = .int .i64 n ∧ 0 ≤ n ∧ n ≤ 30001 := ⟨(x.day % 32 : Nat), rfl, by omega, by omega⟩
  have ten3 : x.ten % 3 = 0 ∨ x.ten % 3 = 1 ∨ x.ten % 3 = 2 := by omega
  have hoddm : oddOf x ∈ List.range 11 := List.mem_range.2 (oddOf_lt x)
  have fin : ∀ {t : List (Nat × ABlk)} {args : List AVal} {val : Nat → Value}, (concs (Bm val) args).toArray = x.args → (∀ w, Tab0 w → x.u.In w → x.d.In w → TabsIn Tryz.prog t w) →
      (∃ R : RecS, R.Ok ∧ ∀ w, TabsIn Tryz.prog t w → Calls Tryz.prog 5 (concs (Bm val) args).toArray w fun e w2 => Grown w w2 ∧ TwoRet w w2 R.l1 R.l2 R.up R.down e) →
      ∃ R : RecS, R.Ok ∧ ∀ w, Tab0 w → x.u.In w → x.d.In w → Calls Tryz.prog 5 x.args w fun e w2 => Grown w w2 ∧ TwoRet w w2 R.l1 R.l2 R.up R.down e := by
    rintro t args val ea ht ⟨R, hR, h⟩
    exact ⟨R, hR, fun w h0 hu hd => by rw [← ea]; exact h w (ht w h0 hu hd)⟩
  by_cases hgr : x.right = false ∧ x.granted = true
  · obtain ⟨hri, hgt⟩ := hgr
    by_cases h6 : oddOf x = 6
    · -- one role more: all is run
      obtain ⟨pa, pp, z1, z2⟩ : ∃ (pa pp : ByteArray), pa.size ≤ 20 ∧ pp.size ≤ 20 := ⟨pa, pp, zpa, zpp⟩
      obtain ⟨qa, qp, qd, y1, y2, hpm⟩ := perm_call (n := x.perm) (allN_ok pm1 x.perm (rng_mem (Nat.zero_le _) (by have := hx.perm; omega)))
      let val6 : Nat → Value := fun id => if 117 ≤ id ∧ id < 140 then flVal y qa qp qd id else itVal x s a p n pa pp pd o1 o2 id
      have hv6 : Vals val6 := by
        refine ⟨fun i h1 h2 => ?_, fun q h1 h2 => ?_⟩
        · show ∃ k : Nat, k ≤ 64 ∧ (if 117 ≤ i ∧ i < 140 then flVal y qa qp qd i else itVal x s a p n pa pp pd o1 o2 i) = .int .i64 (k : Nat)
          rw [if_pos (by omega)]
          exact (flVals y qa qp qd).el i h1 h2
        · have : q = 142 ∨ q = 143 := by omega
          rcases this with rfl | rfl
          · exact ⟨_, rfl, smg o1 sm1⟩
          · exact ⟨_, rfl, smg o2 sm2⟩
      have hval6 : ∀ id, ¬ (117 ≤ id ∧ id < 140) → val6 id = itVal x s a p n pa pp pd o1 o2 id := fun id h => if_neg h
      obtain ⟨m1, m2⟩ := flLeaf_mem y hy
      have hleaf : flLeaf y ∈ fls x.u.bs.length := m2
      have hcl : closedTabs (flLeaf y).tabs = true := by
        have hchk : chkFl (flLeaf y) = true := recAll (p := chkFl) (l := fls x.u.bs.length) (flAll m1) (flLeaf y) hleaf
        unfold chkFl at hchk
        rw [band_eq, Bool.and_eq_true] at hchk
        exact hchk.1
      have hk5 : x.u.bs.length = 0 ∨ x.u.bs.length = 1 ∨ x.u.bs.length = 2 ∨ x.u.bs.length = 3 ∨ x.u.bs.length = 4 := by have : x.u.bs.length < 5 := m1; omega
      have hsix : chkItem6s (x.ten % 3) x.u.bs.length = true := by
        exact sixAll ten3 hk5
      have hchk : chkItem6 (x.ten % 3) (flLeaf y) = true := six_ok hsix (flLeaf y) hleaf
      unfold chkItem6 at hchk
      have hf : FactsOk (EnvT (baseF (x.ten % 3) 6 ++ (flLeaf y).facts) (flLeaf y).tabs) (Bm val6) := by
        intro f hf
        have hf : f ∈ baseF (x.ten % 3) 6 ++ (flLeaf y).facts := hf
        rcases List.mem_append.1 hf with hf | hf
        · rw [← h6] at hf
          exact it_base x hx hask (fun id h1 h2 => hval6 id (by omega)) f hf
        · refine fl_facts y hy hpm (val := val6) (fun id h => ?_) f hf
          show (if 117 ≤ id ∧ id < 140 then flVal y qa qp qd id else itVal x s a p n pa pp pd o1 o2 id) = _
          rcases h with h | h
          · rw [if_neg (by omega)]
            have : id = 107 ∨ id = 108 := by omega
            rcases this with rfl | rfl <;> rfl
          · rw [if_pos h]
      have hwhy : WF (Bm val6) (whyV (flWhy y)) ∧ conc (Bm val6) (whyV (flWhy y)) = .bool x.why := by
        have hyw : y.why = x.why := rfl
        unfold whyV flWhy
        rw [hyw]
        cases x.why
        · exact ⟨trivial, rfl⟩
        · rw [if_pos rfl]
          by_cases h : y.user % 7 = 1 ∨ y.user % 7 = 2 ∨ y.user % 7 = 3
          · rw [if_pos h, ifB_eq, nbeq_eq, if_neg (by rw [beq_iff_eq]; omega)]; exact ⟨trivial, rfl⟩
          · rw [if_neg h]; exact ⟨trivial, rfl⟩
      refine fin (val := val6) (it_args x (fun id h => hval6 id (by omega)) (p70 val6) (p71 val6) (by rw [← h6]; exact odd_conc x rfl) (by rw [hgt]; rfl) (by rw [hri]; rfl) hwhy.2) (fun w _ hu hd => fl_tabs y hy hu hd) (fit_out hv6 ⟨_, hval6 111 (by omega), by omega, by omega⟩ ⟨s, hval6 114 (by omega), s1, s2⟩ ⟨a, hval6 115 (by omega), za⟩ ⟨p, hval6 116 (by omega), zp⟩ ⟨_, hval6 113 (by omega), by omega, by omega⟩
        ⟨(x.user % 7 : Nat), rfl, by omega, by omega⟩ ⟨qa, rfl, y1⟩ ⟨qp, rfl, y2⟩ ⟨qd, rfl⟩ hf hcl hchk (it_wf hwhy.1))
    · -- the chain is what its call gives
      let b0 := viewB 72 x.u.bs.length
      let b1 := viewB 76 x.d.bs.length
      let T := tabs ++ [(60, b0), (61, b1)]
      have hT : ∀ w, Tab0 w → x.u.In w → x.d.In w → TabsIn Tryz.prog T w := by
        intro w h0 hu hd
        refine ⟨fun id => some (Unk.place id), fun _ _ => rfl, fun p hp => ?_⟩
        rcases List.mem_append.1 hp with hp | hp
        · exact tab0_any h0 p hp
        · simp only [List.mem_cons, List.mem_nil_iff, or_false] at hp
          rcases hp with rfl | rfl
          · exact viewB_in hx.u hu h0 (by decide) (fun _ _ => rfl) (placeU x.u x.d)
          · exact viewB_in hx.d hd h0 (by decide) (fun _ _ => rfl) (placeD x.u x.d)
      have hT2 : ∀ w, TabsIn Tryz.prog T w → x.u.In w ∧ x.d.In w := by
        intro w h
        obtain ⟨β, e1, e2⟩ := h
        exact ⟨in_view hx.u (by decide) e1 (placeU x.u x.d) (e2 (60, b0) (List.mem_append_right _ List.mem_cons_self)), in_view hx.d (by decide) e1 (placeD x.u x.d) (e2 (61, b1) (List.mem_append_right _ (List.mem_cons_of_mem _ List.mem_cons_self)))⟩
      have hcl : closedTabs T = true := by
        have hu5 : x.u.bs.length < 5 := by have := hx.u.len; omega
        have hd5 : x.d.bs.length < 5 := by have := hx.d.len; omega
        exact closedT hu5 hd5
      let u1 := if o1.isSome then 1 else 0
      let d1 := if o2.isSome then 1 else 0
      let dp := if oddOf x = 9 then (if pd then 1 else 0) else 2
      have hchk : chkItem2 b0 b1 (x.ten % 3) (oddOf x) u1 d1 dp = true := by
        have h1 : chkTen2 b0 b1 (x.ten % 3) = true := by
          rcases ten3 with h | h | h <;> rw [h]
          · exact congrFun (congrFun ten20 b0) b1
          · exact congrFun (congrFun ten21 b0) b1
          · exact congrFun (congrFun ten22 b0) b1
        have h2 : chkOdd b0 b1 (x.ten % 3) (oddOf x) = true := allN_ok h1 _ hoddm
        unfold chkOdd at h2
        rw [ifB_eq, nbeq_eq, if_neg (by rw [beq_iff_eq]; exact h6)] at h2
        have hu1 : u1 ∈ [0, 1] := by show (if o1.isSome then 1 else 0) ∈ [0, 1]; split <;> simp
        have hd1 : d1 ∈ [0, 1] := by show (if o2.isSome then 1 else 0) ∈ [0, 1]; split <;> simp
        have h3 := allN_ok (allN_ok h2 u1 hu1) d1 hd1
        rw [ifB_eq, nbeq_eq] at h3
        show chkItem2 b0 b1 (x.ten % 3) (oddOf x) u1 d1 (if oddOf x = 9 then (if pd then 1 else 0) else 2) = true
        by_cases h9 : oddOf x = 9
        · rw [if_pos (by rw [beq_iff_eq]; exact h9), band_eq, Bool.and_eq_true] at h3
          rw [if_pos h9]
          cases pd
          · exact h3.1
          · exact h3.2
        · rw [if_neg (by rw [beq_iff_eq]; exact h9)] at h3
          rw [if_neg h9]
          exact h3
      unfold chkItem2 at hchk
      have hdeep : WF (Bm val) (deepV dp) ∧ lowV 300 (deepV dp) = true ∧ conc (Bm val) (deepV dp) = .bool pd := by
        show WF (Bm val) (deepV (if oddOf x = 9 then (if pd then 1 else 0) else 2)) ∧ lowV 300 (deepV (if oddOf x = 9 then (if pd then 1 else 0) else 2)) = true ∧ conc (Bm val) (deepV (if oddOf x = 9 then (if pd then 1 else 0) else 2)) = .bool pd
        by_cases h9 : oddOf x = 9
        · rw [if_pos h9]
          cases pd <;> exact ⟨trivial, rfl, rfl⟩
        · rw [if_neg h9]
          exact ⟨sym_wf (by decide), rfl, sym_at (by decide) (by decide) (show val 121 = .bool pd from rfl) rfl⟩
      have hchain : FactTrue Tryz.prog T (Bm val) (chainF u1 d1 dp) := by
        have ea : (concs (Bm val) [.agg [.sym 107, .sym 108, .sym 70, .sym 71, .sym 141], .agg zeroState, .agg [.sym 114, .sym 115, .sym 116]]).toArray = y.args := by
          simp only [concs]
          rw [conc, conc, conc, zst_conc]
          simp only [concs]
          rw [p70 val, p71 val, sym_at (by decide) (by decide) (show val 107 = .int .u8 (x.user : Nat) from rfl) rfl, sym_at (by decide) (by decide) (show val 108 = .int .u8 (x.perm : Nat) from rfl) rfl,
            sym_at (by decide) (by decide) (show val 141 = .bool x.why from rfl) rfl, sym_at (by decide) (by decide) (show val 114 = .int .i64 s from rfl) rfl, sym_at (by decide) (by decide) (show val 115 = .string a from rfl) rfl, sym_at (by decide) (by decide) (show val 116 = .string p from rfl) rfl]
          rfl
        have hq : ∀ (o : Option ByteArray) (q : Nat), 100 ≤ q → q < 300 → val q = .string (o.getD ⟨#[0]⟩) → OptQ (Bm val) q o := by
          intro o q q1 q2 e
          cases o with
          | none => trivial
          | some t => exact ⟨sym_wf q2, sym_at q1 q2 e rfl⟩
        have := make_two (P := Tryz.prog) (tabs := T) (β := Bm val) (f := 26) (args := [.agg [.sym 107, .sym 108, .sym 70, .sym 71, .sym 141], .agg zeroState, .agg [.sym 114, .sym 115, .sym 116]]) (N := 300) (q1 := 142) (q2 := 143) (t := 3) (o1 := o1) (o2 := o2)
          (l1 := [.sym 118]) (l2 := [.sym 119, .sym 120, deepV dp]) ⟨⟨sym_wf (by decide), sym_wf (by decide), sym_wf (by decide), sym_wf (by decide), sym_wf (by decide), trivial⟩, zst_wf _, ⟨sym_wf (by decide), sym_wf (by decide), sym_wf (by decide), trivial⟩, trivial⟩ (by decide) (by decide)
          (hq o1 142 (by decide) (by decide) rfl) (hq o2 143 (by decide) (by decide) rfl) (fun v hv => by rw [List.mem_singleton] at hv; rw [hv]; rfl) (fun v hv => by
            simp only [List.mem_cons, List.mem_nil_iff, or_false] at hv
            rcases hv with rfl | rfl | rfl
            · rfl
            · rfl
            · exact hdeep.2.1) ⟨sym_wf (by decide), trivial⟩ ⟨sym_wf (by decide), sym_wf (by decide), hdeep.1, trivial⟩ (fun w hw => by
            rw [ea]
            obtain ⟨hu, hd⟩ := hT2 w hw
            refine (hfl w hu hd).mono fun e w2 hx => ⟨hx.1, ?_⟩
            obtain ⟨_, v1, v2, b1, b2, g1, g2, g3, g4⟩ := hx
            refine ⟨v1, v2, b1, b2, g1, ?_, g3, g4⟩
            rw [g2]
            simp only [concs]
            rw [hdeep.2.2, sym_at (by decide) (by decide) (show val 118 = .int .i64 n from rfl) rfl, sym_at (by decide) (by decide) (show val 119 = .string pa from rfl) rfl, sym_at (by decide) (by decide) (show val 120 = .string pp from rfl) rfl])
        cases o1 <;> cases o2 <;> exact this
      have hf : FactsOk (EV b0 b1 (chainF u1 d1 dp :: baseF (x.ten % 3) (oddOf x))) (Bm val) := by
        intro f hf
        have hf : f ∈ chainF u1 d1 dp :: baseF (x.ten % 3) (oddOf x) := hf
        rcases List.mem_cons.1 hf with rfl | hf
        · exact hchain
        · exact it_base x hx hask (val := val) (fun id h1 h2 => rfl) f hf
      exact fin (val := val) (it_args x (fun id h => rfl) (p70 val) (p71 val) (odd_conc x rfl) (by rw [hgt]; rfl) (by rw [hri]; rfl) (sym_at (by decide) (by decide) (show val 141 = .bool x.why from rfl) rfl)) hT
        (fit_out hv h111 ⟨s, rfl, s1, s2⟩ ⟨a, rfl, za⟩ ⟨p, rfl, zp⟩ h113 ⟨n, rfl, n1, by omega⟩ ⟨pa, rfl, zpa⟩ ⟨pp, rfl, zpp⟩ ⟨pd, rfl⟩ hf hcl hchk (it_wf (sym_wf (by decide))))
  · -- the chain is not asked for
    let m := if x.right then 0 else 1
    have hchk : chkItem0 (x.ten % 3) (oddOf x) m = true := by
      have h1 : chkTen0 (x.ten % 3) = true := by
        rcases ten3 with h | h | h <;> rw [h]
        · exact ten00
        · exact ten01
        · exact ten02
      have h2 := allN_ok h1 _ hoddm
      rw [band_eq, Bool.and_eq_true] at h2
      show chkItem0 (x.ten % 3) (oddOf x) (if x.right then 0 else 1) = true
      cases x.right
      · exact h2.2
      · exact h2.1
    unfold chkItem0 at hchk
    have hf : FactsOk (EN (baseF (x.ten % 3) (oddOf x))) (Bm val) := fun f hf => it_base x hx hask (val := val) (fun id h1 h2 => rfl) f hf
    have hgv : conc (Bm val) (grantedV m) = .bool x.granted ∧ conc (Bm val) (rightV m) = .bool x.right := by
      show conc (Bm val) (grantedV (if x.right then 0 else 1)) = .bool x.granted ∧ conc (Bm val) (rightV (if x.right then 0 else 1)) = .bool x.right
      cases hri : x.right
      · have hg0 : x.granted = false := by
          cases hg : x.granted
          · rfl
          · exact absurd ⟨hri, hg⟩ hgr
        rw [hg0]
        exact ⟨rfl, rfl⟩
      · exact ⟨sym_at (by decide) (by decide) (show val 140 = .bool x.granted from rfl) rfl, rfl⟩
    exact fin (val := val) (it_args x (fun id h => rfl) (p70 val) (p71 val) (odd_conc x rfl) hgv.1 hgv.2 (sym_at (by decide) (by decide) (show val 141 = .bool x.why from rfl) rfl)) (fun w _ _ _ => tabs_nil)
      (fit_out hv h111 ⟨s, rfl, s1, s2⟩ ⟨a, rfl, za⟩ ⟨p, rfl, zp⟩ h113 ⟨n, rfl, n1, by omega⟩ ⟨pa, rfl, zpa⟩ ⟨pp, rfl, zpp⟩ ⟨pd, rfl⟩ hf rfl hchk (it_wf (sym_wf (by decide))))
end Go.AEv
