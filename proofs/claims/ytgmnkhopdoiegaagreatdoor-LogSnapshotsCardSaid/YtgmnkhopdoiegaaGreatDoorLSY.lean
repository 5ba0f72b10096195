/- A great house has a snapshot of several parts: the row's step. Conditions: none beyond the row's own. -/
import Derived.Test.YtgmnkhopdoiegaaGreatDoorLSX
import Derived.Test.YtgmnkhopdoiegaaGreatDoorLSYA
import Derived.Test.YtgmnkhopdoiegaaGreatDoorLSYB
import Derived.Test.YtgmnkhopdoiegaaGreatDoorLSYC
import Derived.Test.YtgmnkhopdoiegaaGreatDoorLSZA
import Derived.Test.YtgmnkhopdoiegaaGreatDoorCards
import Derived.ProofKit
import Derived.LaidMore
import Derived.Lay
import Derived.Stop.Joined
namespace Go.Proofs.YtgmnkhopdoiegaaGreatDoor
open Go.ChangeShapes Go.WideShapes Go.ChangeAt Go.RowKit
open Go.AEv (tabs TabsIn)
theorem own : ownKnob Tryz.prog.godebug = none := by kernel_rfl
theorem tabs_of [AEv.Unk] (W : World) : TabsIn Tryz.prog tabs W := ⟨fun g => if g < 60 then some (g, 0, 0) else none, fun _ hg => if_pos hg, fun _ hp => by cases hp⟩
theorem u8_nat {n : Int} (w : (Lit.int .u8 n).wf = true) : ∃ m : Nat, n = m ∧ m < 256 := by
  have h1 : IntKind.u8.min = 0 := rfl
  have h2 : IntKind.u8.max = 255 := rfl
  simp only [Lit.wf, Bool.and_eq_true, decide_eq_true_eq, h1, h2] at w
  exact ⟨n.toNat, by omega, by omega⟩
theorem u16_nat {n : Int} (w : (Lit.int .u16 n).wf = true) : ∃ m : Nat, n = m ∧ m < 65536 := by
  have h1 : IntKind.u16.min = 0 := rfl
  have h2 : IntKind.u16.max = 65535 := rfl
  simp only [Lit.wf, Bool.and_eq_true, decide_eq_true_eq, h1, h2] at w
  exact ⟨n.toNat, by omega, by omega⟩
set_option maxRecDepth 100000 in
theorem lifted (os : Os) (started : os.Started) (H : Type) (enc : TypeId × Value → H) :
    ReturnsInHanded {} Tryz.checked os 3 .any (fun w args => (Rows.logSnapshotsSpec.pre enc Tryz.prog Tryz.f3 [] false w args ∧ laidMetH Tryz.prog Rows.logSnapshotsRow.laid w) ∧ sizedMet enc Tryz.prog Tryz.f3 (OpenSpec.ofChange Rows.logSnapshotsSpec) false w args)
      (Rows.logSnapshotsSpec.post enc Tryz.prog Tryz.f3 false true false false) := by
  letI : AEv.Unk := ⟨fun _ => .nilIface, fun _ => rfl⟩
  refine AEv.lifted_of_calls (C := Tryz.checked) (tb := 4) own started (by kernel_rfl) Tryz.func3 cf2 (by kernel_rfl) rfl (by kernel_rfl) Tryz.underlying4 ?_
    (ChangeSpec.witness_shaped (enc := enc) (C := Tryz.checked) (os := os) (X := fun w _ => laidMetH Tryz.prog Rows.logSnapshotsRow.laid w) false (World.laidAll Tryz.prog os Rows.logSnapshotsRow.laid)
      #[.int .u8 0, .int .u16 0] 8 (World.laidAll_os _ _ _)
      (World.shaped_of_ZipB (wz os) (wh os)) (wo os) (wp os H enc) (ws os H enc)
      (by rw [MakeChecks.laidMetH_plain _ _ _ wn]; exact laidMet_laidAll _ (wf os) (wi os))) ?_
  · intro ds hds
    have hds : ds.length = 2 := by rw [hds, Tryz.params3]; rfl
    match ds, hds with
    | [_, _], _ => rfl
  · intro W base args ds ps hval0 hA0 hL hsh
    have hval : ∀ (j : Nat) t v, Tryz.f3.params[j]? = some t → args[j]? = some v → Value.okWide Tryz.prog W .any base t v := hval0
    have hA : DataW.TrodAll enc Tryz.prog W 0 (fun _ => true) true Tryz.f3.params.toList args.toList ds ps := hA0
    rw [Tryz.params3] at hA hval
    obtain ⟨v0, vs0, d0, ds0, p0, q0, hargs, rfl, rfl, h0, r0⟩ := trodAll_cons hA
    obtain ⟨v1, vs1, d1, ds1, p1, q1, rfl, rfl, rfl, h1, r1⟩ := trodAll_cons r0
    obtain ⟨rfl, rfl, rfl⟩ := trodAll_nil r1
    obtain rfl : args = #[v0, v1] := by cases args; simp_all
    obtain ⟨a, rfl, rfl, rfl, w0⟩ := open_int Tryz.underlying5 (hval 0 5 v0 rfl rfl) h0
    obtain ⟨b, rfl, rfl, rfl, w1⟩ := open_int Tryz.underlying22 (hval 1 22 v1 rfl rfl) h1
    obtain ⟨a, rfl, _⟩ := u8_nat w0
    obtain ⟨b, rfl, hb⟩ := u16_nat w1
    exact walk a b hb W (tabs_of W)
end Go.Proofs.YtgmnkhopdoiegaaGreatDoor
