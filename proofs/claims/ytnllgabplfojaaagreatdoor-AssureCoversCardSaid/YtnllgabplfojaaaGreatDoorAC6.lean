/- Which changes leave an assurance valid: every call returns true, and what was there stays as it was; the row's step. Conditions: the listed package variables hold what the row says. -/
import Derived.Test.YtnllgabplfojaaaGreatDoorAC1A
import Derived.Test.YtnllgabplfojaaaGreatDoorAC1B
import Derived.Test.YtnllgabplfojaaaGreatDoorAC1C
import Derived.Test.YtnllgabplfojaaaGreatDoorAC1D
import Derived.Test.YtnllgabplfojaaaGreatDoorAC2
import Derived.Test.YtnllgabplfojaaaGreatDoorAC3
import Derived.Test.YtnllgabplfojaaaGreatDoorAC5A
import Derived.Test.YtnllgabplfojaaaGreatDoorAC5B
import Derived.Test.YtnllgabplfojaaaGreatDoorAC5C
import Derived.Test.YtnllgabplfojaaaGreatDoorAC5D
import Derived.Test.YtnllgabplfojaaaGreatDoorACF
import Derived.Test.YtnllgabplfojaaaGreatDoorEvSe
import Derived.Test.YtnllgabplfojaaaGreatDoorCards
import Derived.ProofKit
import Derived.LaidMore
import Derived.Lay
import Derived.Stop.Joined
namespace Go.Proofs.YtnllgabplfojaaaGreatDoor
open Go.ChangeShapes Go.WideShapes Go.ChangeAt Go.RowKit
open Go.AEv (specs tabs factNew factAwake E0 E1 E2 E3 EA baseMap Inj FactTrue FactsOk symVal TabsIn Fit SpecOne mkEnv AVal Inp)

theorem own : ownKnob Tryz.prog.godebug = none := by kernel_rfl
theorem specOks : ∀ p ∈ specs, SpecOne Tryz.prog p.1 p.2 := by
  intro p hp
  simp only [specs, List.mem_cons, List.mem_nil_iff, or_false] at hp
  rcases hp with rfl | rfl | rfl | rfl | rfl | rfl | rfl | rfl | rfl | rfl | rfl | rfl | rfl | rfl
  · trivial
  · trivial
  · trivial
  · exact ⟨Tryz.f398, Tryz.func398, by kernel_rfl, by kernel_rfl, by kernel_rfl, by kernel_rfl⟩
  · exact ⟨Tryz.f556, Tryz.func556, by kernel_rfl, by kernel_rfl, by kernel_rfl, by kernel_rfl⟩
  · exact ⟨#[3], 110, ⟨Tryz.f475, Tryz.func475, by kernel_rfl, by kernel_rfl, by kernel_rfl, by kernel_rfl⟩, Tryz.underlying110, by kernel_rfl⟩
  · exact ⟨Tryz.f474, Tryz.func474, by kernel_rfl, by kernel_rfl, by kernel_rfl, by kernel_rfl⟩
  · exact ⟨Tryz.f523, Tryz.func523, by kernel_rfl, by kernel_rfl, by kernel_rfl, by kernel_rfl⟩
  · trivial
  · trivial
  · trivial
  · trivial
  · trivial
  · trivial
theorem noCount : AEv.noCountB Tryz.prog = true := by kernel_rfl
theorem mixed : Tryz.prog.follows .mixedOrders = true := by kernel_rfl
theorem fit (facts : List AEv.Fact) : Fit (mkEnv Tryz.prog specs facts tabs) := AEv.fit_mk noCount mixed specOks
theorem closed : AEv.closedTabs tabs = true := by kernel_rfl

def none0 : Inj := fun _ => none
theorem none_lt (n : Nat) : ∀ id z, none0 id = some z → id < n := fun _ _ h => by cases h
theorem noFacts : FactsOk E0 (baseMap none0) := fun f hf => by cases hf
theorem new0 : FactTrue Tryz.prog tabs (baseMap none0) factNew :=
  AEv.fact_make (E := E0) (fit []) (Nat.le_refl 60) (none_lt 60) noFacts closed AEv.chk0 trivial
theorem pieces0 : ∀ f ∈ [AEv.Pm0, AEv.Pm1, AEv.Pm2, AEv.Pm3], FactTrue Tryz.prog tabs (baseMap none0) f := by
  intro f hf
  simp only [List.mem_cons, List.mem_nil_iff, or_false] at hf
  rcases hf with rfl | rfl | rfl | rfl
  · exact AEv.fact_memo (E := E0) (fit []) noFacts closed AEv.pm0
  · exact AEv.fact_memo (E := E0) (fit []) noFacts closed AEv.pm1
  · exact AEv.fact_memo (E := E0) (fit []) noFacts closed AEv.pm2
  · exact AEv.fact_memo (E := E0) (fit []) noFacts closed AEv.pm3
theorem facts1 : FactsOk E1 (baseMap none0) := fun f hf => by
  have hf : f ∈ [factNew] := hf
  rw [List.mem_singleton.1 hf]; exact new0
theorem facts2 : FactsOk E2 (baseMap none0) := pieces0
theorem pieces1 : ∀ f ∈ [AEv.Wd0, AEv.Wd1, AEv.Mk0, AEv.Mk1], FactTrue Tryz.prog tabs (baseMap none0) f := by
  intro f hf
  simp only [List.mem_cons, List.mem_nil_iff, or_false] at hf
  rcases hf with rfl | rfl | rfl | rfl
  · exact AEv.fact_memo (E := E1) (fit [factNew]) facts1 closed AEv.wd0
  · exact AEv.fact_memo (E := E1) (fit [factNew]) facts1 closed AEv.wd1
  · exact AEv.fact_memo (E := E2) (fit [AEv.Pm0, AEv.Pm1, AEv.Pm2, AEv.Pm3]) facts2 closed AEv.mk0
  · exact AEv.fact_memo (E := E2) (fit [AEv.Pm0, AEv.Pm1, AEv.Pm2, AEv.Pm3]) facts2 closed AEv.mk1
theorem facts3 : FactsOk E3 (baseMap none0) := pieces1
theorem awake0 : FactTrue Tryz.prog tabs (baseMap none0) factAwake :=
  AEv.fact_call (E := E3) (fit [AEv.Wd0, AEv.Wd1, AEv.Mk0, AEv.Mk1]) (Nat.le_refl 60) (none_lt 60) facts3 closed AEv.chk1 trivial trivial
theorem base_le (σ : Inj) : (baseMap none0).le (baseMap σ) := by
  intro id x h
  unfold baseMap at h ⊢
  split
  · rename_i hi; rw [if_pos hi] at h; exact h
  · rename_i hi; rw [if_neg hi] at h; cases h

theorem halves {l : List AEv.Grp} (h1 : (l.take 4).all AEv.chkP = true) (h2 : (l.drop 4).all AEv.chkP = true) : l.all AEv.chkP = true := by
  have e := List.take_append_drop 4 l
  rw [← e, List.all_append, h1, h2]
  rfl
theorem app {a b : List AEv.Grp} (h1 : a.all AEv.chkP = true) (h2 : b.all AEv.chkP = true) : (a ++ b).all AEv.chkP = true := by
  rw [List.all_append, h1, h2]; rfl
theorem leavesAll : AEv.grps.all AEv.chkP = true :=
  app (app (app (app (app (app (app (app (app (app (app (app (app (app (app (halves AEv.lv0a AEv.lv0b) (halves AEv.lv1a AEv.lv1b)) (halves AEv.lv2a AEv.lv2b)) (halves AEv.lv3a AEv.lv3b)) (halves AEv.lv4a AEv.lv4b)) (halves AEv.lv5a AEv.lv5b)) (halves AEv.lv6a AEv.lv6b)) (halves AEv.lv7a AEv.lv7b)) (halves AEv.lv8a AEv.lv8b)) (halves AEv.lv9a AEv.lv9b)) (halves AEv.lv10a AEv.lv10b)) (halves AEv.lv11a AEv.lv11b)) (halves AEv.lv12a AEv.lv12b)) (halves AEv.lv13a AEv.lv13b)) (halves AEv.lv14a AEv.lv14b)) (halves AEv.lv15a AEv.lv15b)

theorem kinds (k : Nat) : ∃ j ∈ [12, 13, 0, 1], k % 2 = j % 2 ∧ (k == 12) = (j == 12) ∧ (k == 13) = (j == 13) := by
  by_cases h1 : k = 12
  · subst h1; exact ⟨12, by simp, rfl, rfl, rfl⟩
  · by_cases h2 : k = 13
    · subst h2; exact ⟨13, by simp, rfl, rfl, rfl⟩
    · have e1 : (k == 12) = false := by simpa using h1
      have e2 : (k == 13) = false := by simpa using h2
      rcases Nat.mod_two_eq_zero_or_one k with h | h
      · exact ⟨0, by simp, h, e1, e2⟩
      · exact ⟨1, by simp, h, e1, e2⟩

theorem walk (x : Inp) (hx : x.ok) (rv : Bool) (W : World) (hT : TabsIn Tryz.prog tabs W) :
    Calls Tryz.prog 3 #[.int .u8 (x.g : Nat), .agg #[.int .u8 (x.by_ : Nat), .int .u8 (x.user : Nat), .int .u8 (x.role : Nat), .int .u8 (x.til : Nat), .bool rv], .int .u8 (x.kind : Nat)] W
      fun e w' => AEv.Grown W w' ∧ e = .returned (.bool true) := by
  obtain ⟨p, hp, hg⟩ := AEv.grps_all (x.g / 2 % 128) (Nat.mod_lt _ (by decide))
  obtain ⟨k, hk, k2, k12, k13⟩ := kinds x.kind
  have hr : x.by_ % 5 ∈ [0, 1, 2, 3, 4] := by
    have := Nat.mod_lt x.by_ (show 0 < 5 by decide)
    simp only [List.mem_cons, List.mem_nil_iff, or_false]
    omega
  have hc : AEv.chkA p (x.by_ % 5) k rv = true := by
    have h1 := List.all_eq_true.1 leavesAll p hp
    have h2 := List.all_eq_true.1 (List.all_eq_true.1 h1 _ hr) k hk
    rw [Bool.and_eq_true] at h2
    cases rv
    · exact h2.2
    · exact h2.1
  have hbits : FactsOk (AEv.EG p.g) (baseMap (AEv.sigma x)) := by
    intro f hf
    have hf : f ∈ AEv.bitsF p.g := hf
    rw [hg] at hf
    exact AEv.bits_true f hf
  have hgrp : FactTrue Tryz.prog tabs (baseMap (AEv.sigma x)) (AEv.grpFact p) :=
    AEv.fact_make (E := AEv.EG p.g) (fit (AEv.bitsF p.g)) (show 60 ≤ 100 by decide) (AEv.sigma_lt x) hbits closed (List.all_eq_true.1 AEv.grps_ok p hp)
      ⟨AEv.sym_wf x (by decide) (by decide), trivial, trivial⟩
  have hfacts : FactsOk (EA p (x.by_ % 5) k) (baseMap (AEv.sigma x)) := by
    intro f hf
    have hf : f ∈ [factAwake, AEv.grpFact p] ++ AEv.actF (x.by_ % 5) ++ AEv.kindF k := hf
    rcases List.mem_append.1 hf with hf | hf
    · rcases List.mem_append.1 hf with hf | hf
      · simp only [List.mem_cons, List.mem_nil_iff, or_false] at hf
        rcases hf with rfl | rfl
        · exact awake0.mono (base_le _)
        · exact hgrp
      · exact AEv.act_true hx f hf
    · exact AEv.kind_true hx k2 k12 k13 f hf
  obtain ⟨a1, a2⟩ := AEv.args_ok (x := x) rv
  have h := AEv.calls_of_chk (E := EA p (x.by_ % 5) k) (fit (AEv.factsA p (x.by_ % 5) k)) (show 60 ≤ 100 by decide) (AEv.sigma_lt x) hfacts closed hc a1 hT
  rw [a2] at h
  exact h.mono fun e w' hx => ⟨hx.1, hx.2.1⟩

theorem globs : Tryz.prog.globals.size = 8 := by kernel_rfl
set_option maxRecDepth 100000 in
theorem tabs_of_laid {W : World} (h : laidMetH Tryz.prog Rows.assureCoversRow.laid W) (hsh : W.ShapedOpen Tryz.prog) : TabsIn Tryz.prog tabs W := by
  rw [MakeChecks.laidMetH_plain _ _ _ (by kernel_rfl)] at h
  obtain ⟨ps, ⟨g0, t0, cs0, f0, p0, q0, hg0, ht0, hv0, hd0, ⟨g1, t1, cs1, f1, p1, q1, hg1, ht1, hv1, hd1, ⟨g2, t2, cs2, f2, p2, q2, hg2, ht2, hv2, hd2, ⟨g3, t3, cs3, f3, p3, q3, hg3, ht3, hv3, hd3, ⟨g4, t4, cs4, f4, p4, q4, hg4, ht4, hv4, hd4, ⟨g5, t5, cs5, f5, p5, q5, hg5, ht5, hv5, hd5, _⟩, _⟩, _⟩, _⟩, _⟩, _⟩, _⟩ := h
  clear hd0 hd3
  obtain rfl := Option.some.inj ((show Tryz.prog.globalNamed "math/bits.deBruijn64tab" = some 0 by kernel_rfl).symm.trans hg1)
  obtain rfl := Option.some.inj ((show (Tryz.prog.globals[0]?).map (·.type) = some 276 by kernel_rfl).symm.trans ht1)
  obtain rfl := Option.some.inj ((show Tryz.prog.globalNamed "internal/strconv.uint64pow10" = some 4 by kernel_rfl).symm.trans hg2)
  obtain rfl := Option.some.inj ((show (Tryz.prog.globals[4]?).map (·.type) = some 604 by kernel_rfl).symm.trans ht2)
  obtain rfl := Option.some.inj ((show Tryz.prog.globalNamed "arbac/keccak.rounds" = some 1 by kernel_rfl).symm.trans hg4)
  obtain rfl := Option.some.inj ((show (Tryz.prog.globals[1]?).map (·.type) = some 552 by kernel_rfl).symm.trans ht4)
  obtain rfl := Option.some.inj ((show Tryz.prog.globalNamed "arbac/keccak.turns" = some 2 by kernel_rfl).symm.trans hg5)
  obtain rfl := Option.some.inj ((show (Tryz.prog.globals[2]?).map (·.type) = some 555 by kernel_rfl).symm.trans ht5)
  have c5 : Tryz.prog.cellsOf 5 = 1 := by kernel_rfl
  have c3 : Tryz.prog.cellsOf 3 = 1 := by kernel_rfl
  have c192 : Tryz.prog.cellsOf 192 = 1 := by kernel_rfl
  refine ⟨fun _ => none, fun p hp => ?_⟩
  simp only [tabs, List.mem_cons, List.mem_nil_iff, or_false] at hp
  rcases hp with rfl | rfl | rfl | rfl
  · have h1 := AEv.cells_of_laid (zs := AEv.tab64.map Int.ofNat) Tryz.underlying276 Tryz.underlying5 c5 hd1 (by kernel_rfl)
    have := AEv.tab_in (β := fun _ => none) (t := 276) (n := 64) hsh (by rw [globs]; decide) (by kernel_rfl) hg1 hv1 h1 (by kernel_rfl)
    rwa [List.map_map] at this
  · have h1 := AEv.cells_of_laid (zs := AEv.rounds.map Int.ofNat) Tryz.underlying552 Tryz.underlying192 c192 hd4 (by kernel_rfl)
    have := AEv.tab_in (β := fun _ => none) (t := 552) (n := 24) hsh (by rw [globs]; decide) (by kernel_rfl) hg4 hv4 h1 (by kernel_rfl)
    rwa [List.map_map] at this
  · have h1 := AEv.cells_of_laid (zs := AEv.turns.map Int.ofNat) Tryz.underlying555 Tryz.underlying3 c3 hd5 (by kernel_rfl)
    have := AEv.tab_in (β := fun _ => none) (t := 555) (n := 25) hsh (by rw [globs]; decide) (by kernel_rfl) hg5 hv5 h1 (by kernel_rfl)
    rwa [List.map_map] at this
  · have h1 := AEv.cells_of_laid (zs := AEv.pow10.map Int.ofNat) Tryz.underlying604 Tryz.underlying192 c192 hd2 (by kernel_rfl)
    have := AEv.tab_in (β := fun _ => none) (t := 604) (n := 20) hsh (by rw [globs]; decide) (by kernel_rfl) hg2 hv2 h1 (by kernel_rfl)
    rwa [List.map_map] at this

theorem cell_of_take {l : List Value} {j : Nat} {v : Value} (h : (l.drop j).take 1 = [v]) : l[j]? = some v := by
  have := congrArg (fun m => m[0]?) h
  simpa using this
theorem u8_nat {n : Int} (w : (Lit.int .u8 n).wf = true) : ∃ m : Nat, n = m ∧ m < 256 := by
  have h1 : IntKind.u8.min = 0 := rfl
  have h2 : IntKind.u8.max = 255 := rfl
  simp only [Lit.wf, Bool.and_eq_true, decide_eq_true_eq, h1, h2] at w
  exact ⟨n.toNat, by omega, by omega⟩

set_option maxRecDepth 100000 in
theorem open_act {H : Type} {enc : TypeId × Value → H} {W : World} {base : Nat} {v : Value} {d : DataW H} {ps : List MemPlace} (hv : Value.okWide Tryz.prog W .any base 23 v) (h : DataW.Trod enc Tryz.prog W 0 (fun _ => true) true 23 v d ps) :
    ∃ (a b c d : Nat) (rv : Bool), v = .agg #[.int .u8 (a : Nat), .int .u8 (b : Nat), .int .u8 (c : Nat), .int .u8 (d : Nat), .bool rv] ∧ a < 256 ∧ b < 256 ∧ c < 256 ∧ d < 256 := by
  obtain ⟨cs, rfl, hsz⟩ := okWide_struct Tryz.underlying23 hv
  obtain ⟨fuel, hf⟩ := h
  have hf : DataW.trod enc Tryz.prog W 0 (fun _ => true) true fuel 23 cs.toList = some (d, ps) := hf
  obtain ⟨xs, n, rfl, _, hlen, hx, hfl⟩ := DataW.trod_struct Tryz.underlying23 hf
  have k23 : Tryz.prog.cellsOf 23 = 5 := by kernel_rfl
  have k5 : Tryz.prog.cellsOf 5 = 1 := by kernel_rfl
  have k4 : Tryz.prog.cellsOf 4 = 1 := by kernel_rfl
  rw [k23] at hlen
  have hx5 : xs.length = 5 := hx
  have at_ : ∀ i, i < 5 → ∃ y, xs[i]? = some y := fun i hi => ⟨_, List.getElem?_eq_getElem (by omega)⟩
  obtain ⟨y0, z0⟩ := at_ 0 (by decide)
  obtain ⟨y1, z1⟩ := at_ 1 (by decide)
  obtain ⟨y2, z2⟩ := at_ 2 (by decide)
  obtain ⟨y3, z3⟩ := at_ 3 (by decide)
  obtain ⟨y4, z4⟩ := at_ 4 (by decide)
  have f0 : DataW.trod enc Tryz.prog W 0 (fun _ => true) true n 5 ((cs.toList.drop 0).take (Tryz.prog.cellsOf 5)) = some y0 := (hfl 0 _ rfl).trans z0
  have f1 : DataW.trod enc Tryz.prog W 0 (fun _ => true) true n 5 ((cs.toList.drop 1).take (Tryz.prog.cellsOf 5)) = some y1 := (hfl 1 _ rfl).trans z1
  have f2 : DataW.trod enc Tryz.prog W 0 (fun _ => true) true n 5 ((cs.toList.drop 2).take (Tryz.prog.cellsOf 5)) = some y2 := (hfl 2 _ rfl).trans z2
  have f3 : DataW.trod enc Tryz.prog W 0 (fun _ => true) true n 5 ((cs.toList.drop 3).take (Tryz.prog.cellsOf 5)) = some y3 := (hfl 3 _ rfl).trans z3
  have f4 : DataW.trod enc Tryz.prog W 0 (fun _ => true) true n 4 ((cs.toList.drop 4).take (Tryz.prog.cellsOf 4)) = some y4 := (hfl 4 _ rfl).trans z4
  rw [k5] at f0 f1 f2 f3
  rw [k4] at f4
  obtain ⟨a, e0, _, w0⟩ := DataW.trod_int Tryz.underlying5 f0
  obtain ⟨b, e1, _, w1⟩ := DataW.trod_int Tryz.underlying5 f1
  obtain ⟨c, e2, _, w2⟩ := DataW.trod_int Tryz.underlying5 f2
  obtain ⟨t, e3, _, w3⟩ := DataW.trod_int Tryz.underlying5 f3
  obtain ⟨rv, e4, _⟩ := DataW.trod_bool Tryz.underlying4 f4
  obtain ⟨a, rfl, ha⟩ := u8_nat w0
  obtain ⟨b, rfl, hb⟩ := u8_nat w1
  obtain ⟨c, rfl, hc⟩ := u8_nat w2
  obtain ⟨t, rfl, ht⟩ := u8_nat w3
  refine ⟨a, b, c, t, rv, ?_, ha, hb, hc, ht⟩
  congr 1
  apply Array.toList_inj.1
  apply List.ext_getElem?
  intro j
  match j with
  | 0 => exact cell_of_take e0
  | 1 => exact cell_of_take e1
  | 2 => exact cell_of_take e2
  | 3 => exact cell_of_take e3
  | 4 => exact cell_of_take e4
  | n + 5 => rw [List.getElem?_eq_none (by omega)]; rfl

set_option maxRecDepth 100000 in
theorem lifted (os : Os) (started : os.Started) (H : Type) (enc : TypeId × Value → H) :
    ReturnsInHanded {} Tryz.checked os 3 .any (fun w args => (Rows.assureCoversSpec.pre enc Tryz.prog Tryz.f3 [] false w args ∧ laidMetH Tryz.prog Rows.assureCoversRow.laid w) ∧ sizedMet enc Tryz.prog Tryz.f3 (OpenSpec.ofChange Rows.assureCoversSpec) false w args)
      (Rows.assureCoversSpec.post enc Tryz.prog Tryz.f3 false true false false) := by
  refine AEv.lifted_of_calls (C := Tryz.checked) (tb := 4) own started (by kernel_rfl) Tryz.func3 (by kernel_rfl) (by kernel_rfl) rfl (by kernel_rfl) Tryz.underlying4 ?_
    (ChangeSpec.witness_shaped (enc := enc) (C := Tryz.checked) (os := os) (X := fun w _ => laidMetH Tryz.prog Rows.assureCoversRow.laid w) false (World.laidAll Tryz.prog os Rows.assureCoversRow.laid)
      #[.int .u8 0, .agg #[.int .u8 0, .int .u8 0, .int .u8 0, .int .u8 0, .bool false], .int .u8 0] 8 (World.laidAll_os _ _ _)
      (World.shaped_of_ZipB (by kernel_rfl) (by kernel_rfl)) (by kernel_rfl) (by kernel_rfl) (by kernel_rfl)
      (by rw [MakeChecks.laidMetH_plain _ _ _ (by kernel_rfl)]; exact laidMet_laidAll _ (by kernel_rfl) (by kernel_rfl))) ?_
  · intro ds hds
    have hds : ds.length = 3 := by rw [hds, Tryz.params3]; rfl
    match ds, hds with
    | [_, _, _], _ => rfl
  · intro W base args ds ps hval0 hA0 hL hsh
    have hval : ∀ (j : Nat) t v, Tryz.f3.params[j]? = some t → args[j]? = some v → Value.okWide Tryz.prog W .any base t v := hval0
    have hA : DataW.TrodAll enc Tryz.prog W 0 (fun _ => true) true Tryz.f3.params.toList args.toList ds ps := hA0
    rw [Tryz.params3] at hA hval
    obtain ⟨v0, vs0, d0, ds0, p0, q0, hargs, rfl, rfl, h0, r0⟩ := trodAll_cons hA
    obtain ⟨v1, vs1, d1, ds1, p1, q1, rfl, rfl, rfl, h1, r1⟩ := trodAll_cons r0
    obtain ⟨v2, vs2, d2, ds2, p2, q2, rfl, rfl, rfl, h2, r2⟩ := trodAll_cons r1
    obtain ⟨rfl, rfl, rfl⟩ := trodAll_nil r2
    obtain rfl : args = #[v0, v1, v2] := by cases args; simp_all
    obtain ⟨g, rfl, rfl, rfl, w0⟩ := open_int Tryz.underlying5 (hval 0 5 v0 rfl rfl) h0
    obtain ⟨a, b, c, d, rv, rfl, ha, hb, hc, hd⟩ := open_act (hval 1 23 v1 rfl rfl) h1
    obtain ⟨k, rfl, rfl, rfl, w2⟩ := open_int Tryz.underlying5 (hval 2 5 v2 rfl rfl) h2
    obtain ⟨g, rfl, hg⟩ := u8_nat w0
    obtain ⟨k, rfl, hk⟩ := u8_nat w2
    exact walk ⟨g, a, b, c, d, k⟩ ⟨hg, ha, hb, hc, hd, hk⟩ rv W (tabs_of_laid hL hsh)
end Go.Proofs.YtnllgabplfojaaaGreatDoor
