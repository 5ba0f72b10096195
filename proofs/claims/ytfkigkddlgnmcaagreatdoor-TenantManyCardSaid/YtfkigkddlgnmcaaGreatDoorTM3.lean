/- Many tenants: every call returns true, and what was there stays as it was; the row's step. Conditions: the listed package variables hold what the row says. -/
import Derived.Test.YtfkigkddlgnmcaaGreatDoorTM2
import Derived.Test.YtfkigkddlgnmcaaGreatDoorEvSe
import Derived.Test.YtfkigkddlgnmcaaGreatDoorCards
import Derived.Test.YtfkigkddlgnmcaaGreatDoorTie
import Derived.ProofKit
import Derived.LaidMore
import Derived.Lay
import Derived.Stop.Joined
namespace Go.Proofs.YtfkigkddlgnmcaaGreatDoor
open Go.ChangeShapes Go.WideShapes Go.ChangeAt Go.RowKit
open Go.AEv (specs tabs factNew factsK E0 E1 E2 baseMap Inj FactTrue FactsOk symVal TabsIn Fit SpecOne mkEnv AVal)

theorem own : ownKnob Tryz.prog.godebug = none := by kernel_rfl

theorem specOks : ∀ p ∈ specs, SpecOne Tryz.prog p.1 p.2 := by
  intro p hp
  simp only [specs, List.mem_cons, List.mem_nil_iff, or_false] at hp
  rcases hp with rfl | rfl | rfl | rfl | rfl | rfl | rfl | rfl | rfl | rfl
  · trivial
  · trivial
  · trivial
  · exact ⟨Tryz.f253, Tryz.func253, by kernel_rfl, by kernel_rfl, by kernel_rfl, by kernel_rfl⟩
  · exact ⟨Tryz.f410, Tryz.func410, by kernel_rfl, by kernel_rfl, by kernel_rfl, by kernel_rfl⟩
  · exact ⟨#[3], 28, ⟨Tryz.f307, Tryz.func307, by kernel_rfl, by kernel_rfl, by kernel_rfl, by kernel_rfl⟩, Tryz.underlying28, by kernel_rfl⟩
  · exact ⟨Tryz.f306, Tryz.func306, by kernel_rfl, by kernel_rfl, by kernel_rfl, by kernel_rfl⟩
  · exact ⟨Tryz.f82, Tryz.func82, by kernel_rfl, by kernel_rfl, by kernel_rfl, by kernel_rfl⟩
  · trivial
  · trivial
theorem noCount : AEv.noCountB Tryz.prog = true := by kernel_rfl
theorem mixed : Tryz.prog.follows .mixedOrders = true := by kernel_rfl
theorem fit (facts : List AEv.Fact) : Fit (mkEnv Tryz.prog specs facts tabs) := AEv.fit_mk noCount mixed specOks
theorem closed : AEv.closedTabs tabs = true := by kernel_rfl

/-- the map without symbols -/
def none0 : Inj := fun _ => none
theorem new0 : FactTrue Tryz.prog tabs (baseMap none0) factNew :=
  AEv.fact_make (E := E0) (fit []) (Nat.le_refl 60) (fun _ _ h => by cases h) (fun f hf => by cases hf) closed AEv.chk0 trivial
theorem awake0 : FactTrue Tryz.prog tabs (baseMap none0) (.call 4 [] (.bool true)) :=
  AEv.fact_call (E := E1) (fit [factNew]) (Nat.le_refl 60) (fun _ _ h => by cases h) (fun f hf => by rw [List.mem_singleton.1 hf]; exact new0) closed AEv.chk1 trivial trivial

theorem manyAll : ∀ (k : Nat) (b : Bool), k < 18 → AEv.chkLit (E2 k) 1000000 3 [.sym 60, .bool b] 62 (.bool true) = true := by
  intro k b hk
  match k, b, hk with
  | 0, true, _ => exact AEv.many0t
  | 0, false, _ => exact AEv.many0f
  | 1, true, _ => exact AEv.many1t
  | 1, false, _ => exact AEv.many1f
  | 2, true, _ => exact AEv.many2t
  | 2, false, _ => exact AEv.many2f
  | 3, true, _ => exact AEv.many3t
  | 3, false, _ => exact AEv.many3f
  | 4, true, _ => exact AEv.many4t
  | 4, false, _ => exact AEv.many4f
  | 5, true, _ => exact AEv.many5t
  | 5, false, _ => exact AEv.many5f
  | 6, true, _ => exact AEv.many6t
  | 6, false, _ => exact AEv.many6f
  | 7, true, _ => exact AEv.many7t
  | 7, false, _ => exact AEv.many7f
  | 8, true, _ => exact AEv.many8t
  | 8, false, _ => exact AEv.many8f
  | 9, true, _ => exact AEv.many9t
  | 9, false, _ => exact AEv.many9f
  | 10, true, _ => exact AEv.many10t
  | 10, false, _ => exact AEv.many10f
  | 11, true, _ => exact AEv.many11t
  | 11, false, _ => exact AEv.many11f
  | 12, true, _ => exact AEv.many12t
  | 12, false, _ => exact AEv.many12f
  | 13, true, _ => exact AEv.many13t
  | 13, false, _ => exact AEv.many13f
  | 14, true, _ => exact AEv.many14t
  | 14, false, _ => exact AEv.many14f
  | 15, true, _ => exact AEv.many15t
  | 15, false, _ => exact AEv.many15f
  | 16, true, _ => exact AEv.many16t
  | 16, false, _ => exact AEv.many16f
  | 17, true, _ => exact AEv.many17t
  | 17, false, _ => exact AEv.many17f
  | n + 18, _, h => exact absurd h (by omega)
theorem base_le (σ : Inj) : (baseMap none0).le (baseMap σ) := by
  intro id x h
  unfold baseMap at h ⊢
  split
  · rename_i hi; rw [if_pos hi] at h; exact h
  · rename_i hi; rw [if_neg hi] at h; cases h

theorem walk (a0 : Int) (a1 : Bool) (w0 : (Lit.int .u8 a0).wf = true) (W : World) (hT : TabsIn Tryz.prog tabs W) :
    Calls Tryz.prog 3 #[.int .u8 a0, .bool a1] W fun e w' => AEv.Grown W w' ∧ e = .returned (.bool true) := by
  have hb : 0 ≤ a0 ∧ a0 < 256 := by
    have h1 : IntKind.u8.min = 0 := rfl
    have h2 : IntKind.u8.max = 255 := rfl
    simp only [Lit.wf, Bool.and_eq_true, decide_eq_true_eq, h1, h2] at w0
    omega
  obtain ⟨x, hx⟩ := AEv.symVal_int .u8 a0
  obtain ⟨y, hy⟩ := AEv.symVal_int .i64 a0
  let σ : Inj := fun id => if id = 60 then some x else if id = 61 then some y else none
  have s60 : baseMap σ 60 = some x := rfl
  have s61 : baseMap σ 61 = some y := rfl
  have c60 : AEv.conc (baseMap σ) (.sym 60) = .int .u8 a0 := by simp [AEv.conc, s60, hx]
  have c61 : AEv.conc (baseMap σ) (.sym 61) = .int .i64 a0 := by simp [AEv.conc, s61, hy]
  have w60 : AEv.WF (baseMap σ) (.sym 60) := by simp [AEv.WF, s60]
  have w61 : AEv.WF (baseMap σ) (.sym 61) := by simp [AEv.WF, s61]
  obtain ⟨k, hk, hm⟩ : ∃ k : Nat, k < 18 ∧ a0.tmod 18 = k := by
    refine ⟨(a0.toNat % 18), by omega, ?_⟩
    rw [Int.tmod_eq_emod_of_nonneg hb.1]
    omega
  have hle := base_le σ
  have hfacts : FactsOk (E2 k) (baseMap σ) := by
    intro f hf
    have hf : f ∈ factsK k := hf
    simp only [factsK, List.mem_cons, List.mem_nil_iff, or_false] at hf
    rcases hf with rfl | rfl | rfl | rfl
    · exact new0.mono hle
    · exact awake0.mono hle
    · refine ⟨w60, w61, .u8, a0, c60, ?_⟩
      rw [c61]
      congr 1
      have h1 : a0 % 2 ^ 64 = a0 := Int.emod_eq_of_lt hb.1 (by omega)
      simp only [IntKind.wrap, IntKind.signed, IntKind.bits, h1]
      rw [if_neg]
      simp
      omega
    · refine ⟨w61, trivial, trivial, by rw [c61]; rfl, fun t w => ?_⟩
      rw [c61]
      have h := AEv.run_intOp (P := Tryz.prog) (op := .rem) (k := .i64) (j := .i64) (a := a0) (b := 18) (v := AEv.mkInt .i64 (AEv.itmod a0 18)) rfl t (baseMap σ) w
      have h1 := h.1
      rw [AEv.mkInt_eq, AEv.itmod_eq, hm] at h1
      exact h1
  have h := AEv.calls_of_chk (E := E2 k) (fit (factsK k)) (show 60 ≤ 62 by decide) (σ := σ) (fun id z hz => by
      have hz : (if id = 60 then some x else if id = 61 then some y else none) = some z := hz
      split at hz
      · omega
      · split at hz
        · omega
        · cases hz) hfacts closed (manyAll k a1 hk) (show AEv.WFs (baseMap σ) [.sym 60, .bool a1] from ⟨w60, trivial, trivial⟩) hT
  have e : (AEv.concs (baseMap σ) [.sym 60, .bool a1]).toArray = #[.int .u8 a0, .bool a1] := by
    rw [AEv.concs, AEv.concs, AEv.concs, c60, AEv.conc]
  rw [e] at h
  exact h.mono fun e w' hx => ⟨hx.1, hx.2.1⟩

theorem globs : Tryz.prog.globals.size = 6 := by kernel_rfl
set_option maxRecDepth 100000 in
theorem tabs_of_laid {W : World} (h : laidMetH Tryz.prog Rows.tenantManyRow.laid W) (hsh : W.ShapedOpen Tryz.prog) : TabsIn Tryz.prog tabs W := by
  rw [MakeChecks.laidMetH_plain _ _ _ (by kernel_rfl)] at h
  obtain ⟨ps, ⟨g0, t0, cs0, f0, p0, q0, hg0, ht0, hv0, hd0, ⟨g1, t1, cs1, f1, p1, q1, hg1, ht1, hv1, hd1, ⟨g2, t2, cs2, f2, p2, q2, hg2, ht2, hv2, hd2, _⟩, _⟩, _⟩, _⟩ := h
  clear hd0
  obtain rfl := Option.some.inj ((show Tryz.prog.globalNamed "math/bits.deBruijn64tab" = some 1 by kernel_rfl).symm.trans hg1)
  obtain rfl := Option.some.inj ((show (Tryz.prog.globals[1]?).map (·.type) = some 348 by kernel_rfl).symm.trans ht1)
  obtain rfl := Option.some.inj ((show Tryz.prog.globalNamed "internal/strconv.uint64pow10" = some 2 by kernel_rfl).symm.trans hg2)
  obtain rfl := Option.some.inj ((show (Tryz.prog.globals[2]?).map (·.type) = some 420 by kernel_rfl).symm.trans ht2)
  have c5 : Tryz.prog.cellsOf 5 = 1 := by kernel_rfl
  have c4 : Tryz.prog.cellsOf 59 = 1 := by kernel_rfl
  refine ⟨fun _ => none, fun p hp => ?_⟩
  rcases List.mem_cons.1 hp with rfl | hp
  · have h1 := AEv.cells_of_laid (zs := AEv.tab64.map Int.ofNat) Tryz.underlying348 Tryz.underlying5 c5 hd1 (by kernel_rfl)
    have := AEv.tab_in (β := fun _ => none) (t := 348) (n := 64) hsh (by rw [globs]; decide) (by kernel_rfl) hg1 hv1 h1 (by kernel_rfl)
    rwa [List.map_map] at this
  · rw [List.mem_singleton.1 hp]
    have h1 := AEv.cells_of_laid (zs := AEv.pow10.map Int.ofNat) Tryz.underlying420 Tryz.underlying59 c4 hd2 (by kernel_rfl)
    have := AEv.tab_in (β := fun _ => none) (t := 420) (n := 20) hsh (by rw [globs]; decide) (by kernel_rfl) hg2 hv2 h1 (by kernel_rfl)
    rwa [List.map_map] at this

set_option maxRecDepth 100000 in
theorem lifted (os : Os) (started : os.Started) (H : Type) (enc : TypeId × Value → H) :
    ReturnsInHanded {} Tryz.checked os 3 .any (fun w args => (Rows.tenantManySpec.pre enc Tryz.prog Tryz.f3 [] false w args ∧ laidMetH Tryz.prog Rows.tenantManyRow.laid w) ∧ sizedMet enc Tryz.prog Tryz.f3 (OpenSpec.ofChange Rows.tenantManySpec) false w args)
      (Rows.tenantManySpec.post enc Tryz.prog Tryz.f3 false true false false) := by
  refine AEv.returns_shaped (C := Tryz.checked) (X := fun w _ => laidMetH Tryz.prog Rows.tenantManyRow.laid w) (fun _ _ _ hh h => h.of_heap hh) own started (by kernel_rfl) Tryz.func3
    (ChangeSpec.witness_shaped (enc := enc) (C := Tryz.checked) (os := os) (X := fun w _ => laidMetH Tryz.prog Rows.tenantManyRow.laid w) false (World.laidAll Tryz.prog os Rows.tenantManyRow.laid) #[.int .u8 0, .bool false] 8 (World.laidAll_os _ _ _)
      (World.shaped_of_ZipB (by kernel_rfl) (by kernel_rfl)) (by kernel_rfl) (by kernel_rfl) (by kernel_rfl)
      (by rw [MakeChecks.laidMetH_plain _ _ _ (by kernel_rfl)]; exact laidMet_laidAll _ (by kernel_rfl) (by kernel_rfl))) ?_
  intro W base args ds gs before hval0 hW _ hL hsh
  have hval : ∀ (j : Nat) t v, Tryz.f3.params[j]? = some t → args[j]? = some v → Value.okWide Tryz.prog W .any base t v := hval0
  have hW' := hW
  obtain ⟨p, q, hA0, hV, rfl, hfz, hnd⟩ := hW
  have hA : DataW.TrodAll enc Tryz.prog W 0 (fun _ => true) true Tryz.f3.params.toList args.toList ds p := hA0
  rw [Tryz.params3] at hA hval
  obtain ⟨v0, vs0, d0, ds0, p0, q0, hargs, rfl, rfl, h0, r0⟩ := trodAll_cons hA
  obtain ⟨v1, vs1, d1, ds1, p1, q1, rfl, rfl, rfl, h1, r1⟩ := trodAll_cons r0
  obtain ⟨rfl, rfl, rfl⟩ := trodAll_nil r1
  obtain rfl : args = #[v0, v1] := by cases args; simp_all
  obtain ⟨rfl, rfl⟩ := trodVars_none hV
  obtain ⟨a0, rfl, rfl, rfl, w0⟩ := open_int Tryz.underlying5 (hval 0 5 v0 rfl rfl) h0
  obtain ⟨a1, rfl, rfl, rfl⟩ := open_bool Tryz.underlying4 (hval 1 4 v1 rfl rfl) h1
  clear hA0 hval0
  simp only [List.append_nil] at hW'
  refine (walk a0 a1 w0 W (tabs_of_laid hL hsh)).mono fun e W' hx => ?_
  obtain ⟨hg, rfl⟩ := hx
  exact ⟨_, rfl, AEv.post_of_grown (pa := []) (pv := []) hW' (fun _ _ _ => (trodAll_cons_mk (shut_bool Tryz.underlying4 _) trodAll_mk0)) (fun sp _ => (trodAll_cons_mk (shut_int Tryz.underlying5 w0) (trodAll_cons_mk (shut_bool Tryz.underlying4 _) trodAll_mk0))) (fun _ _ => rfl) rfl
    hg (ok_one (by kernel_rfl) rfl (okWide_bool_mk Tryz.underlying4 _))⟩

end Go.Proofs.YtfkigkddlgnmcaaGreatDoor
