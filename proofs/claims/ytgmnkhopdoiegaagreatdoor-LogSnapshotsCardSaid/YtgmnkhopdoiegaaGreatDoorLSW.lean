/- The walks of the checksums' functions, the program's and the reference's. Conditions: each walk's own, on its arguments. -/
import Derived.Test.YtgmnkhopdoiegaaGreatDoorProg
import Derived.WalkKit
import Derived.Test.YtgmnkhopdoiegaaGreatDoorLSF
import Derived.Test.YtgmnkhopdoiegaaGreatDoorLS0
namespace Go.Proofs.YtgmnkhopdoiegaaGreatDoor
open Go.RowKit
open Go.AEv (nat crcStep crcSteps crcNot crcUpd crcFold)
set_option linter.unusedSectionVars false
theorem xor32 (a b : Nat) (ha : a < 4294967296) (hb : b < 4294967296) : bits .xor .u32 (a : Int) (b : Int) = ((Nat.xor a b : Nat) : Int) := u32_xor_nat a b ha hb
theorem odd32 (y : Nat) (hy : y < 4294967296) : (bits .and .u32 (y : Int) 1 == 1) = decide (y % 2 = 1) := by
  have h := u32_and_nat y 1 hy (by decide)
  rw [show ((1 : Nat) : Int) = 1 from rfl] at h
  rw [h, Nat.and_one_is_mod]
  rcases Nat.mod_two_eq_zero_or_one y with h | h <;> rw [h] <;> rfl
set_option linter.unusedSectionVars false
variable [AEv.Unk]
theorem steps_any (c : Nat) (w : World) (hc : c < 4294967296) : Calls Tryz.prog 114 #[.int .u32 (c : Nat), .int .i64 8] w fun e w2 => e = .returned (.int .u32 (crcSteps 8 c : Nat)) ∧ w2 = w := by
  go_enter Tryz.func114, Tryz.ntmps114
  go_wp2
  go_loop [0, 7] (fun x i => ∃ k y : Nat, k ≤ 8 ∧ y < 4294967296 ∧ i = .int .i64 k ∧ x = .int .u32 y ∧ crcSteps (8 - k) y = crcSteps 8 c) (fun _ i => match i with | .int _ j => 8 - j.toNat | _ => 0)
  case atStart => exact ⟨0, c, by omega, hc, rfl, rfl, rfl⟩
  case round =>
    obtain ⟨k, y, hk, hy, rfl, rfl, hs⟩ := hrel
    go_wp2
    · have hlt : (k : Int) < 8 := by assumption
      have ho : (bits .and .u32 (y : Int) 1 == 1) = true := by assumption
      rw [odd32 y hy] at ho
      have ho := of_decide_eq_true ho
      have h2 : ((y : Int) / 2) = ((y / 2 : Nat) : Int) := rfl
      have h3 := xor32 (y / 2) 2197175160 (by omega) (by decide)
      refine ⟨⟨k + 1, crcStep y, by omega, AEv.crcStep_lt hy, by simp, ?_, ?_⟩, by simp only []; omega⟩
      · rw [h2]
        refine congrArg (Value.int .u32) (h3.trans ?_)
        rw [AEv.crcStep_eq, if_pos ho]
      · rw [← hs, show 8 - k = (8 - (k + 1)) + 1 from by omega]
        rfl
    · have hlt : (k : Int) < 8 := by assumption
      have ho : (bits .and .u32 (y : Int) 1 == 1) = false := by assumption
      rw [odd32 y hy] at ho
      have ho := of_decide_eq_false ho
      refine ⟨⟨k + 1, crcStep y, by omega, AEv.crcStep_lt hy, by simp, ?_, ?_⟩, by simp only []; omega⟩
      · rw [AEv.crcStep_eq, if_neg ho]
        rfl
      · rw [← hs, show 8 - k = (8 - (k + 1)) + 1 from by omega]
        rfl
    · have hge : 8 ≤ (k : Int) := by assumption
      have : k = 8 := by omega
      subst this
      have hs : y = crcSteps 8 c := hs
      rw [← hs]
      go_ret
      exact ⟨rfl, rfl⟩

theorem not32 (c : Nat) (hc : c < 4294967296) : bits .xor .u32 IntKind.u32.max (c : Int) = ((crcNot c : Nat) : Int) := by
  have h := xor32 4294967295 c (by decide) hc
  refine Eq.trans h ?_
  have e : Nat.xor 4294967295 c = 4294967295 - c := by
    have h1 := congrArg BitVec.toNat (BitVec.xor_allOnes (x := BitVec.ofNat 32 c))
    rw [BitVec.toNat_xor, BitVec.toNat_allOnes, BitVec.toNat_not, BitVec.toNat_ofNat, Nat.mod_eq_of_lt (show c < 2 ^ 32 from hc), Nat.xor_comm] at h1
    exact h1
  rw [e]; rfl
set_option maxRecDepth 100000 in
theorem upd_any (c : Nat) (l : List Nat) (b o cap : Nat) (w : World) (hc : c < 4294967296) (hl : ∀ x ∈ l, x < 256) (_ : l.length ≤ cap) (hbig : l.length ≤ 1000000)
    (hcell : ∀ i (x : Nat), l[i]? = some x → w.cell? ⟨b, o + i, none⟩ = some (.int .u8 (x : Nat))) :
    Calls Tryz.prog 57 #[.int .u32 (c : Nat), .slice (some ⟨b, o, none⟩) l.length cap] w fun e w2 => e = .returned (.int .u32 (crcUpd c l : Nat)) ∧ w2 = w := by
  go_enter Tryz.func57, Tryz.ntmps57
  go_wp2
  have hn : bits .xor .u32 IntKind.u32.max (c : Int) = ((crcNot c : Nat) : Int) := not32 c hc
  rw [hn]
  go_loop [0, 6, 11] (fun x _ i => ∃ k y : Nat, k ≤ l.length ∧ y < 4294967296 ∧ i = .int .i64 k ∧ x = .int .u32 y ∧ crcFold (l.drop k) y = crcFold l (crcNot c)) (fun _ _ i => match i with | .int _ j => l.length - j.toNat | _ => 0)
  case atStart => exact ⟨0, crcNot c, by omega, AEv.crcNot_lt c, rfl, rfl, rfl⟩
  case round =>
    obtain ⟨k, y, hk, hy, rfl, rfl, hs⟩ := hrel
    by_cases hkl : k < l.length
    · have hc1 : w.cell? ⟨b, o + k, none⟩ = some (.int .u8 (l[k] : Nat)) := hcell k l[k] (List.getElem?_eq_getElem hkl)
      have hb : l[k] < 256 := hl _ (List.getElem_mem hkl)
      have hx := xor32 y l[k] hy (by omega)
      have hxl := AEv.xor_lt32 hy (Nat.lt_trans hb (show 256 < 4294967296 by decide))
      clear hcell
      have hst : ∀ w, Calls Tryz.prog 114 #[.int .u32 ((y ^^^ l[k] : Nat) : Int), .int .i64 8] w fun e w2 => e = .returned (.int .u32 (crcSteps 8 (y ^^^ l[k]) : Nat)) ∧ w2 = w := fun w => steps_any (Nat.xor y l[k]) w hxl
      go_wp2_with (go_at_call 114; refine (hst _).mono ?_; rintro e w' ⟨rfl, rfl⟩)
      refine ⟨⟨k + 1, crcSteps 8 (Nat.xor y l[k]), by omega, AEv.crcSteps_lt 8 hxl, by simp, rfl, ?_⟩, by simp only []; omega⟩
      rw [← hs, List.drop_eq_getElem_cons hkl]
      rfl
    · have : k = l.length := by omega
      subst this
      go_wp2
      have hs : y = crcFold l (crcNot c) := by rw [← hs, List.drop_length]; rfl
      have hy2 : bits .xor .u32 IntKind.u32.max (y : Int) = ((crcNot y : Nat) : Int) := not32 y hy
      go_ret
      refine ⟨?_, rfl⟩
      show Ending.returned (Value.int .u32 (bits .xor .u32 IntKind.u32.max (y : Int))) = _
      rw [hy2, hs]
      rfl


/-! ### The reference's -/
theorem odd2 (c : Nat) : ((c : Int) % 2 == 1) = decide (c % 2 = 1) := by
  have e : (c : Int) % 2 = ((c % 2 : Nat) : Int) := rfl
  rw [e]
  rcases Nat.mod_two_eq_zero_or_one c with h | h <;> rw [h] <;> rfl
theorem rstep_any (c : Nat) (w : World) (hc : c < 4294967296) : Calls Tryz.prog 173 #[.int .u32 (c : Nat)] w fun e w2 => e = .returned (.int .u32 (crcStep c : Nat)) ∧ w2 = w := by
  go_enter Tryz.func173, Tryz.ntmps173
  go_wp2
  · have ho : ((c : Int) % 2 == 1) = true := by assumption
    rw [odd2] at ho
    have ho := of_decide_eq_true ho
    have h3 := xor32 (c / 2) 2197175160 (by omega) (by decide)
    go_ret
    refine ⟨congrArg (fun x => Ending.returned (Value.int .u32 x)) (h3.trans ?_), rfl⟩
    rw [AEv.crcStep_eq, if_pos ho]
  · have ho : ((c : Int) % 2 == 1) = false := by assumption
    rw [odd2] at ho
    have ho := of_decide_eq_false ho
    go_ret
    refine ⟨congrArg (fun x => Ending.returned (Value.int .u32 x)) ?_, rfl⟩
    rw [AEv.crcStep_eq, if_neg ho]
    rfl
theorem take_any (c b : Nat) (w : World) (hc : c < 4294967296) (hb : b < 256) : Calls Tryz.prog 126 #[.int .u32 (c : Nat), .int .u8 (b : Nat)] w fun e w2 => e = .returned (.int .u32 (crcSteps 8 (Nat.xor c b) : Nat)) ∧ w2 = w := by
  have hx := xor32 c b hc (by omega)
  have hxl := AEv.xor_lt32 hc (Nat.lt_trans hb (show 256 < 4294967296 by decide))
  go_enter Tryz.func126, Tryz.ntmps126
  go_wp2
  go_loop [0, 5] (fun x i => ∃ k y : Nat, k ≤ 8 ∧ y < 4294967296 ∧ i = .int .i64 k ∧ x = .int .u32 y ∧ crcSteps (8 - k) y = crcSteps 8 (Nat.xor c b)) (fun _ i => match i with | .int _ j => 8 - j.toNat | _ => 0)
  case atStart => exact ⟨0, Nat.xor c b, by omega, hxl, rfl, by first | rfl | rw [hx], rfl⟩
  case round =>
    obtain ⟨k, y, hk, hy, rfl, rfl, hs⟩ := hrel
    clear hx
    have hst : ∀ w, Calls Tryz.prog 173 #[.int .u32 ((y : Nat) : Int)] w fun e w2 => e = .returned (.int .u32 (crcStep y : Nat)) ∧ w2 = w := fun w => rstep_any y w hy
    go_wp2_with (go_at_call 173; refine (hst _).mono ?_; rintro e w' ⟨rfl, rfl⟩)
    · have hlt : (k : Int) < 8 := by assumption
      refine ⟨⟨k + 1, crcStep y, by omega, AEv.crcStep_lt hy, by simp, rfl, ?_⟩, by simp only []; omega⟩
      rw [← hs, show 8 - k = (8 - (k + 1)) + 1 from by omega]
      rfl
    · have hge : 8 ≤ (k : Int) := by assumption
      have : k = 8 := by omega
      subst this
      have hs : y = crcSteps 8 (Nat.xor c b) := hs
      go_ret
      refine ⟨?_, rfl⟩
      rw [hs]
      rfl
set_option maxRecDepth 100000 in
theorem rupd_any (c : Nat) (l : List Nat) (b o cap : Nat) (w : World) (hc : c < 4294967296) (hl : ∀ x ∈ l, x < 256) (_ : l.length ≤ cap) (hbig : l.length ≤ 1000000)
    (hcell : ∀ i (x : Nat), l[i]? = some x → w.cell? ⟨b, o + i, none⟩ = some (.int .u8 (x : Nat))) :
    Calls Tryz.prog 76 #[.int .u32 (c : Nat), .slice (some ⟨b, o, none⟩) l.length cap] w fun e w2 => e = .returned (.int .u32 (crcUpd c l : Nat)) ∧ w2 = w := by
  go_enter Tryz.func76, Tryz.ntmps76
  go_wp2
  have hn : bits .xor .u32 IntKind.u32.max (c : Int) = ((crcNot c : Nat) : Int) := not32 c hc
  rw [hn]
  go_loop [0, 6, 11] (fun x _ i => ∃ k y : Nat, k ≤ l.length ∧ y < 4294967296 ∧ i = .int .i64 k ∧ x = .int .u32 y ∧ crcFold (l.drop k) y = crcFold l (crcNot c)) (fun _ _ i => match i with | .int _ j => l.length - j.toNat | _ => 0)
  case atStart => exact ⟨0, crcNot c, by omega, AEv.crcNot_lt c, rfl, rfl, rfl⟩
  case round =>
    obtain ⟨k, y, hk, hy, rfl, rfl, hs⟩ := hrel
    by_cases hkl : k < l.length
    · have hc1 : w.cell? ⟨b, o + k, none⟩ = some (.int .u8 (l[k] : Nat)) := hcell k l[k] (List.getElem?_eq_getElem hkl)
      have hb : l[k] < 256 := hl _ (List.getElem_mem hkl)
      have hxl := AEv.xor_lt32 hy (Nat.lt_trans hb (show 256 < 4294967296 by decide))
      clear hcell
      have hst : ∀ w, Calls Tryz.prog 126 #[.int .u32 (y : Nat), .int .u8 (l[k] : Nat)] w fun e w2 => e = .returned (.int .u32 (crcSteps 8 (Nat.xor y l[k]) : Nat)) ∧ w2 = w := fun w => take_any y l[k] w hy hb
      go_wp2_with (go_at_call 126; refine (hst _).mono ?_; rintro e w' ⟨rfl, rfl⟩)
      refine ⟨⟨k + 1, crcSteps 8 (Nat.xor y l[k]), by omega, AEv.crcSteps_lt 8 hxl, by simp, rfl, ?_⟩, by simp only []; omega⟩
      rw [← hs, List.drop_eq_getElem_cons hkl]
      rfl
    · have : k = l.length := by omega
      subst this
      go_wp2
      have hs : y = crcFold l (crcNot c) := by rw [← hs, List.drop_length]; rfl
      have hy2 : bits .xor .u32 IntKind.u32.max (y : Int) = ((crcNot y : Nat) : Int) := not32 y hy
      go_ret
      refine ⟨?_, rfl⟩
      show Ending.returned (Value.int .u32 (bits .xor .u32 IntKind.u32.max (y : Int))) = _
      rw [hy2, hs]
      rfl
theorem doesRef : AEv.Does Tryz.prog AEv.tabs AEv.fRUpd :=
  fun c l b o cap w hc hl hle hbig _ hcell => (rupd_any c l b o cap w hc hl hle hbig hcell).mono fun e w2 hx => ⟨hx.1, by rw [hx.2]; exact ⟨fun _ _ => rfl, Nat.le_refl _, rfl, rfl, rfl⟩⟩
theorem doesUpd : AEv.Does Tryz.prog AEv.tabs AEv.fUpd :=
  fun c l b o cap w hc hl hle hbig _ hcell => (upd_any c l b o cap w hc hl hle hbig hcell).mono fun e w2 hx => ⟨hx.1, by rw [hx.2]; exact ⟨fun _ _ => rfl, Nat.le_refl _, rfl, rfl, rfl⟩⟩
end Go.Proofs.YtgmnkhopdoiegaaGreatDoor
