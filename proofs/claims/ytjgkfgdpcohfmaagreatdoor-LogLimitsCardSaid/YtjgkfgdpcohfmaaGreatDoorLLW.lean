/- The walks of token.while (over the test of a comment's bytes), crc.steps and crc.Update, and what strings.Repeat gives. Conditions: each walk's own, on its arguments. -/
import Derived.Test.YtjgkfgdpcohfmaaGreatDoorProg
import Derived.WalkKit
import Derived.Test.YtjgkfgdpcohfmaaGreatDoorEvSe
import Derived.Test.YtjgkfgdpcohfmaaGreatDoorLLF
import Derived.Test.YtjgkfgdpcohfmaaGreatDoorLLR
import Derived.Test.YtjgkfgdpcohfmaaGreatDoorLL0
namespace Go.Proofs.YtjgkfgdpcohfmaaGreatDoor
open Go.RowKit
open Go.AEv (nat text tx xs crcStep crcSteps crcNot crcUpd)

theorem tx_size (n : Nat) : (AEv.str (tx n)).size = n + 1 := by
  show (((tx n).map UInt8.ofNat).toArray).size = n + 1
  simp [tx, xs]
theorem tx_at (n k : Nat) (h : k < (AEv.str (tx n)).size) : ((AEv.str (tx n))[k]).toNat = 35 ∨ ((AEv.str (tx n))[k]).toNat = 120 := by
  have h' : k < n + 1 := by rw [tx_size] at h; exact h
  have e : (AEv.str (tx n))[k] = ((tx n).map UInt8.ofNat)[k]'(by simp [tx, xs]; omega) := rfl
  rw [e, List.getElem_map]
  cases k with
  | zero => left; rfl
  | succ k => right; simp [tx, xs]
theorem while_any (n : Nat) (w : World) (hn : n < 8000) : Calls Tryz.prog 359 #[.string (AEv.str (tx n)), .int .i64 0, .func (.func 417) #[] #[]] w fun e w2 => e = .returned (.int .i64 ((n + 1 : Nat) : Int)) ∧ w2 = w := by
  have hsz : (AEv.str (tx n)).size = n + 1 := tx_size n
  go_enter Tryz.func359, Tryz.ntmps359
  go_wp2
  go_loop [1] (fun i => ∃ k : Nat, k ≤ n + 1 ∧ i = .int .i64 k) (fun i => match i with | .int _ j => n + 1 - j.toNat | _ => 0)
  case atStart => exact ⟨0, by omega, rfl⟩
  case round =>
    obtain ⟨k, hk, rfl⟩ := hrel
    go_wp2
    · have hlt : (k : Int) < (n : Int) + 1 := by assumption
      exact ⟨⟨k + 1, by omega, by simp⟩, by simp only []; omega⟩
    · have hlt : (k : Int) < (n : Int) + 1 := by assumption
      have hb := tx_at n k (by rw [hsz]; omega)
      have hx : (((AEv.str (tx n))[k].toNat : Int) != 10) = false := by assumption
      rcases hb with hb | hb <;> rw [hb] at hx <;> cases hx
    · have hge : (n : Int) + 1 ≤ (k : Int) := by assumption
      have : k = n + 1 := by omega
      subst this
      go_ret
      exact ⟨rfl, rfl⟩

theorem xor32 (a b : Nat) (ha : a < 4294967296) (hb : b < 4294967296) : bits .xor .u32 (a : Int) (b : Int) = ((Nat.xor a b : Nat) : Int) := u32_xor_nat a b ha hb
theorem odd32 (y : Nat) (hy : y < 4294967296) : (bits .and .u32 (y : Int) 1 == 1) = decide (y % 2 = 1) := by
  have h := u32_and_nat y 1 hy (by decide)
  rw [show ((1 : Nat) : Int) = 1 from rfl] at h
  rw [h, Nat.and_one_is_mod]
  rcases Nat.mod_two_eq_zero_or_one y with h | h <;> rw [h] <;> rfl
set_option linter.unusedSectionVars false
variable [AEv.Unk]
theorem steps_any (c : Nat) (w : World) (hc : c < 4294967296) : Calls Tryz.prog 97 #[.int .u32 (c : Nat), .int .i64 8] w fun e w2 => e = .returned (.int .u32 (crcSteps 8 c : Nat)) ∧ w2 = w := by
  go_enter Tryz.func97, Tryz.ntmps97
  go_wp2
  go_loop [0, 7] (fun x i => ∃ k y : Nat, k ≤ 8 ∧ y < 4294967296 ∧ i = .int .i64 k ∧ x = .int .u32 y ∧ crcSteps (8 - k) y = crcSteps 8 c) (fun _ i => match i with | .int _ j => 8 - j.toNat | _ => 0)
  case atStart => exact ⟨0, c, by omega, hc, rfl, rfl, rfl⟩
  case round =>
    obtain ⟨k, y, hk, hy, rfl, rfl, hs⟩ := hrel
    go_wp2
    · have hlt : (k : Int) < 8 := by assumption
      have ho : (bits .and .u32 (y : Int) 1 == 1) = true := by assumption
      rw [odd32 y hy] at ho
      have ho := of_decide_eq_true ho
      have h2 : ((y : Int) / 2) = ((y / 2 : Nat) : Int) := rfl
      have h3 := xor32 (y / 2) 2197175160 (by omega) (by decide)
      refine ⟨⟨k + 1, crcStep y, by omega, AEv.crcStep_lt hy, by simp, ?_, ?_⟩, by simp only []; omega⟩
      · rw [h2]
        refine congrArg (Value.int .u32) (h3.trans ?_)
        unfold crcStep
        rw [if_pos ho]
      · rw [← hs, show 8 - k = (8 - (k + 1)) + 1 from by omega]
        rfl
    · have hlt : (k : Int) < 8 := by assumption
      have ho : (bits .and .u32 (y : Int) 1 == 1) = false := by assumption
      rw [odd32 y hy] at ho
      have ho := of_decide_eq_false ho
      refine ⟨⟨k + 1, crcStep y, by omega, AEv.crcStep_lt hy, by simp, ?_, ?_⟩, by simp only []; omega⟩
      · unfold crcStep
        rw [if_neg ho]
        rfl
      · rw [← hs, show 8 - k = (8 - (k + 1)) + 1 from by omega]
        rfl
    · have hge : 8 ≤ (k : Int) := by assumption
      have : k = 8 := by omega
      subst this
      have hs : y = crcSteps 8 c := hs
      rw [← hs]
      go_ret
      exact ⟨rfl, rfl⟩

/-- the rest of the bytes -/
def fold (l : List Nat) (c : Nat) : Nat := l.foldl (fun c b => crcSteps 8 (Nat.xor c b)) c
theorem not32 (c : Nat) (hc : c < 4294967296) : bits .xor .u32 IntKind.u32.max (c : Int) = ((crcNot c : Nat) : Int) := by
  have h := xor32 4294967295 c (by decide) hc
  refine Eq.trans h ?_
  have e : Nat.xor 4294967295 c = 4294967295 - c := by
    have h1 := congrArg BitVec.toNat (BitVec.xor_allOnes (x := BitVec.ofNat 32 c))
    rw [BitVec.toNat_xor, BitVec.toNat_allOnes, BitVec.toNat_not, BitVec.toNat_ofNat, Nat.mod_eq_of_lt (show c < 2 ^ 32 from hc), Nat.xor_comm] at h1
    exact h1
  rw [e]; rfl
theorem fold_lt : ∀ (l : List Nat) (c : Nat), c < 4294967296 → (∀ x ∈ l, x < 256) → fold l c < 4294967296
  | [], _, h, _ => h
  | b :: l, c, h, hl => fold_lt l _ (AEv.crcSteps_lt 8 (AEv.xor_lt32 h (Nat.lt_trans (hl b (List.mem_cons_self ..)) (by decide)))) fun x hx => hl x (List.mem_cons_of_mem _ hx)
set_option maxRecDepth 100000 in
theorem upd_any (c : Nat) (l : List Nat) (b o cap : Nat) (w : World) (hc : c < 4294967296) (hl : ∀ x ∈ l, x < 256) (_ : l.length ≤ cap) (hbig : l.length ≤ 1000000)
    (hcell : ∀ i (x : Nat), l[i]? = some x → w.cell? ⟨b, o + i, none⟩ = some (.int .u8 (x : Nat))) :
    Calls Tryz.prog 50 #[.int .u32 (c : Nat), .slice (some ⟨b, o, none⟩) l.length cap] w fun e w2 => e = .returned (.int .u32 (crcUpd c l : Nat)) ∧ w2 = w := by
  go_enter Tryz.func50, Tryz.ntmps50
  go_wp2
  have hn : bits .xor .u32 IntKind.u32.max (c : Int) = ((crcNot c : Nat) : Int) := not32 c hc
  rw [hn]
  go_loop [0, 6, 11] (fun x _ i => ∃ k y : Nat, k ≤ l.length ∧ y < 4294967296 ∧ i = .int .i64 k ∧ x = .int .u32 y ∧ fold (l.drop k) y = fold l (crcNot c)) (fun _ _ i => match i with | .int _ j => l.length - j.toNat | _ => 0)
  case atStart => exact ⟨0, crcNot c, by omega, by unfold crcNot; omega, rfl, rfl, rfl⟩
  case round =>
    obtain ⟨k, y, hk, hy, rfl, rfl, hs⟩ := hrel
    by_cases hkl : k < l.length
    · have hc1 : w.cell? ⟨b, o + k, none⟩ = some (.int .u8 (l[k] : Nat)) := hcell k l[k] (List.getElem?_eq_getElem hkl)
      have hb : l[k] < 256 := hl _ (List.getElem_mem hkl)
      have hx := xor32 y l[k] hy (by omega)
      have hxl := AEv.xor_lt32 hy (Nat.lt_trans hb (show 256 < 4294967296 by decide))
      clear hcell
      have hst : ∀ w, Calls Tryz.prog 97 #[.int .u32 ((y ^^^ l[k] : Nat) : Int), .int .i64 8] w fun e w2 => e = .returned (.int .u32 (crcSteps 8 (y ^^^ l[k]) : Nat)) ∧ w2 = w := fun w => steps_any (Nat.xor y l[k]) w hxl
      go_wp2_with (go_at_call 97; refine (hst _).mono ?_; rintro e w' ⟨rfl, rfl⟩)
      refine ⟨⟨k + 1, crcSteps 8 (Nat.xor y l[k]), by omega, AEv.crcSteps_lt 8 hxl, by simp, rfl, ?_⟩, by simp only []; omega⟩
      rw [← hs, List.drop_eq_getElem_cons hkl]
      rfl
    · have : k = l.length := by omega
      subst this
      go_wp2
      have hs : y = fold l (crcNot c) := by rw [← hs, List.drop_length]; rfl
      have hy2 : bits .xor .u32 IntKind.u32.max (y : Int) = ((crcNot y : Nat) : Int) := not32 y hy
      go_ret
      refine ⟨?_, rfl⟩
      show Ending.returned (Value.int .u32 (bits .xor .u32 IntKind.u32.max (y : Int))) = _
      rw [hy2, hs]
      rfl

theorem rep_eq : ∀ n, Lib.repeatL [120] n = (AEv.xs n).map UInt8.ofNat
  | 0 => rfl
  | n + 1 => by
    show [120] ++ Lib.repeatL [120] n = _
    rw [rep_eq n]
    simp [xs, List.replicate_succ]
theorem does : AEv.Does Tryz.prog AEv.tabs AEv.fns where
  rep := fun n hn w _ => by
    have h1 : (AEv.str [120]).size = 1 := rfl
    refine (Tryz.strings_Repeat (AEv.str [120]) n w (by omega) (by rw [h1]; omega)).mono fun e w2 hx => ?_
    refine ⟨?_, AEv.Grown.of_below hx.2⟩
    rw [hx.1]
    show Ending.returned (Value.string ⟨(Lib.repeatL [120] n).toArray⟩) = _
    rw [rep_eq]
    rfl
  while_ := fun n hn w _ => (while_any n w hn).mono fun e w2 hx => ⟨hx.1, by rw [hx.2]; exact ⟨fun _ _ => rfl, Nat.le_refl _, rfl, rfl, rfl⟩⟩
  upd := fun c l b o cap w hc hl hle hbig _ hcell => (upd_any c l b o cap w hc hl hle hbig hcell).mono fun e w2 hx => ⟨hx.1, by rw [hx.2]; exact ⟨fun _ _ => rfl, Nat.le_refl _, rfl, rfl, rfl⟩⟩
end Go.Proofs.YtjgkfgdpcohfmaaGreatDoor
