/- A transaction whose frame would be too long: the row's step. Conditions: none beyond the row's own. -/
import Derived.Test.YtjgkfgdpcohfmaaGreatDoorLL6
import Derived.Test.YtjgkfgdpcohfmaaGreatDoorLL7A
import Derived.Test.YtjgkfgdpcohfmaaGreatDoorLL7B
import Derived.Test.YtjgkfgdpcohfmaaGreatDoorLL7C
import Derived.Test.YtjgkfgdpcohfmaaGreatDoorLL8A
import Derived.Test.YtjgkfgdpcohfmaaGreatDoorCards
import Derived.ProofKit
import Derived.LaidMore
import Derived.Lay
import Derived.Stop.Joined
namespace Go.Proofs.YtjgkfgdpcohfmaaGreatDoor
open Go.ChangeShapes Go.WideShapes Go.ChangeAt Go.RowKit
open Go.AEv (tabs TabsIn)
theorem own : ownKnob Tryz.prog.godebug = none := by kernel_rfl
theorem tabs_of [AEv.Unk] (W : World) : TabsIn Tryz.prog tabs W := ⟨fun g => if g < 60 then some (g, 0, 0) else none, fun _ hg => if_pos hg, fun _ hp => by cases hp⟩
theorem u16_nat {n : Int} (w : (Lit.int .u16 n).wf = true) : ∃ m : Nat, n = m ∧ m < 65536 := by
  have h1 : IntKind.u16.min = 0 := rfl
  have h2 : IntKind.u16.max = 65535 := rfl
  simp only [Lit.wf, Bool.and_eq_true, decide_eq_true_eq, h1, h2] at w
  exact ⟨n.toNat, by omega, by omega⟩
set_option maxRecDepth 100000 in
theorem lifted (os : Os) (started : os.Started) (H : Type) (enc : TypeId × Value → H) :
    ReturnsInHanded {} Tryz.checked os 3 .any (fun w args => (Rows.logLimitsSpec.pre enc Tryz.prog Tryz.f3 [] false w args ∧ laidMetH Tryz.prog Rows.logLimitsRow.laid w) ∧ sizedMet enc Tryz.prog Tryz.f3 (OpenSpec.ofChange Rows.logLimitsSpec) false w args)
      (Rows.logLimitsSpec.post enc Tryz.prog Tryz.f3 false true false false) := by
  letI : AEv.Unk := ⟨fun _ => .nilIface, fun _ => rfl⟩
  refine AEv.lifted_of_calls (C := Tryz.checked) (tb := 4) own started (by kernel_rfl) Tryz.func3 cf2 (by kernel_rfl) rfl (by kernel_rfl) Tryz.underlying4 ?_
    (ChangeSpec.witness_shaped (enc := enc) (C := Tryz.checked) (os := os) (X := fun w _ => laidMetH Tryz.prog Rows.logLimitsRow.laid w) false (World.laidAll Tryz.prog os Rows.logLimitsRow.laid)
      #[.int .u16 0, .int .u16 0, .bool false] 8 (World.laidAll_os _ _ _)
      (World.shaped_of_ZipB (wz os) (wh os)) (wo os) (wp os H enc) (ws os H enc)
      (by rw [MakeChecks.laidMetH_plain _ _ _ wn]; exact laidMet_laidAll _ (wf os) (wi os))) ?_
  · intro ds hds
    have hds : ds.length = 3 := by rw [hds, Tryz.params3]; rfl
    match ds, hds with
    | [_, _, _], _ => rfl
  · intro W base args ds ps hval0 hA0 hL hsh
    have hval : ∀ (j : Nat) t v, Tryz.f3.params[j]? = some t → args[j]? = some v → Value.okWide Tryz.prog W .any base t v := hval0
    have hA : DataW.TrodAll enc Tryz.prog W 0 (fun _ => true) true Tryz.f3.params.toList args.toList ds ps := hA0
    rw [Tryz.params3] at hA hval
    obtain ⟨v0, vs0, d0, ds0, p0, q0, hargs, rfl, rfl, h0, r0⟩ := trodAll_cons hA
    obtain ⟨v1, vs1, d1, ds1, p1, q1, rfl, rfl, rfl, h1, r1⟩ := trodAll_cons r0
    obtain ⟨v2, vs2, d2, ds2, p2, q2, rfl, rfl, rfl, h2, r2⟩ := trodAll_cons r1
    obtain ⟨rfl, rfl, rfl⟩ := trodAll_nil r2
    obtain rfl : args = #[v0, v1, v2] := by cases args; simp_all
    obtain ⟨a, rfl, rfl, rfl, w0⟩ := open_int Tryz.underlying22 (hval 0 22 v0 rfl rfl) h0
    obtain ⟨b, rfl, rfl, rfl, w1⟩ := open_int Tryz.underlying22 (hval 1 22 v1 rfl rfl) h1
    obtain ⟨wrong, rfl, rfl, rfl⟩ := open_bool Tryz.underlying4 (hval 2 4 v2 rfl rfl) h2
    obtain ⟨a, rfl, ha⟩ := u16_nat w0
    obtain ⟨b, rfl, hb⟩ := u16_nat w1
    exact walk a b ha hb wrong W (tabs_of W)
end Go.Proofs.YtjgkfgdpcohfmaaGreatDoor
