/- The forms of changes: every call returns true, and what was there stays as it was. Conditions: the listed package variables hold what the row says. -/
import Derived.Test.YteokcfkggfapkaaGreatDoorCC2
import Derived.Test.YteokcfkggfapkaaGreatDoorCC3A
import Derived.Test.YteokcfkggfapkaaGreatDoorCC3B
import Derived.Test.YteokcfkggfapkaaGreatDoorCC3C
import Derived.Test.YteokcfkggfapkaaGreatDoorCC3D
import Derived.Test.YteokcfkggfapkaaGreatDoorEvSe
import Derived.Test.YteokcfkggfapkaaGreatDoorCCR
import Derived.Test.YteokcfkggfapkaaGreatDoorCards
import Derived.ProofKit
import Derived.LaidMore
import Derived.Lay
import Derived.Stop.Joined
namespace Go.Proofs.YteokcfkggfapkaaGreatDoor
open Go.ChangeShapes Go.WideShapes Go.ChangeAt Go.RowKit
open Go.AEv (specs tabs factNew factAwake E0 E1 EL baseMap Inj FactTrue FactsOk symVal TabsIn Fit SpecOne mkEnv AVal Inp)

theorem own : ownKnob Tryz.prog.godebug = none := by kernel_rfl
theorem specOks : ∀ p ∈ specs, SpecOne Tryz.prog p.1 p.2 := by
  intro p hp
  simp only [specs, List.mem_cons, List.mem_nil_iff, or_false] at hp
  rcases hp with rfl | rfl | rfl | rfl | rfl | rfl | rfl | rfl | rfl | rfl
  · trivial
  · trivial
  · trivial
  · exact ⟨Tryz.f212, Tryz.func212, by kernel_rfl, by kernel_rfl, by kernel_rfl, by kernel_rfl⟩
  · exact ⟨Tryz.f371, Tryz.func371, by kernel_rfl, by kernel_rfl, by kernel_rfl, by kernel_rfl⟩
  · exact ⟨#[3], 45, ⟨Tryz.f140, Tryz.func140, by kernel_rfl, by kernel_rfl, by kernel_rfl, by kernel_rfl⟩, Tryz.underlying45, by kernel_rfl⟩
  · exact ⟨Tryz.f139, Tryz.func139, by kernel_rfl, by kernel_rfl, by kernel_rfl, by kernel_rfl⟩
  · trivial
  · trivial
  · trivial
theorem noCount : AEv.noCountB Tryz.prog = true := by kernel_rfl
theorem mixed : Tryz.prog.follows .mixedOrders = true := by kernel_rfl
theorem fit (facts : List AEv.Fact) : Fit (mkEnv Tryz.prog specs facts tabs) := AEv.fit_mk noCount mixed specOks
theorem closed : AEv.closedTabs tabs = true := by kernel_rfl

def none0 : Inj := fun _ => none
theorem new0 : FactTrue Tryz.prog tabs (baseMap none0) factNew :=
  AEv.fact_make (E := E0) (fit []) (Nat.le_refl 60) (fun _ _ h => by cases h) (fun f hf => by cases hf) closed AEv.chk0 trivial
theorem awake0 : FactTrue Tryz.prog tabs (baseMap none0) factAwake :=
  AEv.fact_call (E := E1) (fit [factNew]) (Nat.le_refl 60) (fun _ _ h => by cases h) (fun f hf => by rw [List.mem_singleton.1 hf]; exact new0) closed AEv.chk1 trivial trivial
theorem base_le (σ : Inj) : (baseMap none0).le (baseMap σ) := by
  intro id x h
  unfold baseMap at h ⊢
  split
  · rename_i hi; rw [if_pos hi] at h; exact h
  · rename_i hi; rw [if_neg hi] at h; cases h

theorem leavesAll : ∀ (k : Nat) (only deep : Bool), k < 21 → AEv.chkLeaves k only deep = true := by
  intro k only deep hk
  match k, only, deep, hk with
  | 0, true, true, _ => exact AEv.lv0tt
  | 0, true, false, _ => exact AEv.lv0tf
  | 0, false, true, _ => exact AEv.lv0ft
  | 0, false, false, _ => exact AEv.lv0ff
  | 1, true, true, _ => exact AEv.lv1tt
  | 1, true, false, _ => exact AEv.lv1tf
  | 1, false, true, _ => exact AEv.lv1ft
  | 1, false, false, _ => exact AEv.lv1ff
  | 2, true, true, _ => exact AEv.lv2tt
  | 2, true, false, _ => exact AEv.lv2tf
  | 2, false, true, _ => exact AEv.lv2ft
  | 2, false, false, _ => exact AEv.lv2ff
  | 3, true, true, _ => exact AEv.lv3tt
  | 3, true, false, _ => exact AEv.lv3tf
  | 3, false, true, _ => exact AEv.lv3ft
  | 3, false, false, _ => exact AEv.lv3ff
  | 4, true, true, _ => exact AEv.lv4tt
  | 4, true, false, _ => exact AEv.lv4tf
  | 4, false, true, _ => exact AEv.lv4ft
  | 4, false, false, _ => exact AEv.lv4ff
  | 5, true, true, _ => exact AEv.lv5tt
  | 5, true, false, _ => exact AEv.lv5tf
  | 5, false, true, _ => exact AEv.lv5ft
  | 5, false, false, _ => exact AEv.lv5ff
  | 6, true, true, _ => exact AEv.lv6tt
  | 6, true, false, _ => exact AEv.lv6tf
  | 6, false, true, _ => exact AEv.lv6ft
  | 6, false, false, _ => exact AEv.lv6ff
  | 7, true, true, _ => exact AEv.lv7tt
  | 7, true, false, _ => exact AEv.lv7tf
  | 7, false, true, _ => exact AEv.lv7ft
  | 7, false, false, _ => exact AEv.lv7ff
  | 8, true, true, _ => exact AEv.lv8tt
  | 8, true, false, _ => exact AEv.lv8tf
  | 8, false, true, _ => exact AEv.lv8ft
  | 8, false, false, _ => exact AEv.lv8ff
  | 9, true, true, _ => exact AEv.lv9tt
  | 9, true, false, _ => exact AEv.lv9tf
  | 9, false, true, _ => exact AEv.lv9ft
  | 9, false, false, _ => exact AEv.lv9ff
  | 10, true, true, _ => exact AEv.lv10tt
  | 10, true, false, _ => exact AEv.lv10tf
  | 10, false, true, _ => exact AEv.lv10ft
  | 10, false, false, _ => exact AEv.lv10ff
  | 11, true, true, _ => exact AEv.lv11tt
  | 11, true, false, _ => exact AEv.lv11tf
  | 11, false, true, _ => exact AEv.lv11ft
  | 11, false, false, _ => exact AEv.lv11ff
  | 12, true, true, _ => exact AEv.lv12tt
  | 12, true, false, _ => exact AEv.lv12tf
  | 12, false, true, _ => exact AEv.lv12ft
  | 12, false, false, _ => exact AEv.lv12ff
  | 13, true, true, _ => exact AEv.lv13tt
  | 13, true, false, _ => exact AEv.lv13tf
  | 13, false, true, _ => exact AEv.lv13ft
  | 13, false, false, _ => exact AEv.lv13ff
  | 14, true, true, _ => exact AEv.lv14tt
  | 14, true, false, _ => exact AEv.lv14tf
  | 14, false, true, _ => exact AEv.lv14ft
  | 14, false, false, _ => exact AEv.lv14ff
  | 15, true, true, _ => exact AEv.lv15tt
  | 15, true, false, _ => exact AEv.lv15tf
  | 15, false, true, _ => exact AEv.lv15ft
  | 15, false, false, _ => exact AEv.lv15ff
  | 16, true, true, _ => exact AEv.lv16tt
  | 16, true, false, _ => exact AEv.lv16tf
  | 16, false, true, _ => exact AEv.lv16ft
  | 16, false, false, _ => exact AEv.lv16ff
  | 17, true, true, _ => exact AEv.lv17tt
  | 17, true, false, _ => exact AEv.lv17tf
  | 17, false, true, _ => exact AEv.lv17ft
  | 17, false, false, _ => exact AEv.lv17ff
  | 18, true, true, _ => exact AEv.lv18tt
  | 18, true, false, _ => exact AEv.lv18tf
  | 18, false, true, _ => exact AEv.lv18ft
  | 18, false, false, _ => exact AEv.lv18ff
  | 19, true, true, _ => exact AEv.lv19tt
  | 19, true, false, _ => exact AEv.lv19tf
  | 19, false, true, _ => exact AEv.lv19ft
  | 19, false, false, _ => exact AEv.lv19ff
  | 20, true, true, _ => exact AEv.lv20tt
  | 20, true, false, _ => exact AEv.lv20tf
  | 20, false, true, _ => exact AEv.lv20ft
  | 20, false, false, _ => exact AEv.lv20ff
  | n + 21, _, _, h => exact absurd h (by omega)

theorem rep_ok (t : Nat) (ht : t ≤ 65535) (w : World) (_ : TabsIn Tryz.prog tabs w) :
    Calls Tryz.prog 19 #[.string (AEv.str [35]), .int .i64 (t : Nat)] w fun e w2 => e = .returned (.string (AEv.repStr t)) ∧ AEv.Grown w w2 := by
  have h1 : (AEv.str [35]).size = 1 := rfl
  refine (Tryz.strings_Repeat (AEv.str [35]) t w (by omega) (by rw [h1]; omega)).mono fun e w2 hx => ?_
  exact ⟨hx.1, AEv.Grown.of_below hx.2⟩

theorem walk (x : Inp) (hk : 0 ≤ x.kind ∧ x.kind < 256) (hn : ∀ i, i < 6 → -2147483648 ≤ x.num i ∧ x.num i ≤ 2147483647) (ht : x.t ≤ 65535) (deep only : Bool) (W : World) (hT : TabsIn Tryz.prog tabs W) :
    Calls Tryz.prog 3 #[.agg #[.int .u8 x.kind, .int .i32 (x.num 0), .int .i32 (x.num 1), .int .i32 (x.num 2), .int .i32 (x.num 3), .int .i32 (x.num 4), .int .i32 (x.num 5), .string x.name, .int .u16 (x.t : Nat), .string x.path, .bool deep], .bool only] W
      fun e w' => AEv.Grown W w' ∧ e = .returned (.bool true) := by
  obtain ⟨k, hk21, hm⟩ : ∃ k : Nat, k < 21 ∧ x.kind.tmod 21 = k := by
    refine ⟨(x.kind.toNat % 21), by omega, ?_⟩
    rw [Int.tmod_eq_emod_of_nonneg hk.1]
    omega
  obtain ⟨l, hl, hh⟩ := AEv.cover (x := x) (AEv.tests k only) AEv.leaf0 (AEv.holds0 x) fun t ht => AEv.goodTest_ok (AEv.tests_good k only t ht)
  have hc : AEv.chkLeaf k only deep l = true := List.all_eq_true.1 (leavesAll k only deep hk21) l hl
  have hfacts : FactsOk (EL k l) (baseMap (AEv.sigma x)) := by
    intro f hf
    have hf : f ∈ AEv.leafAll k l := hf
    unfold AEv.leafAll at hf
    rcases List.mem_append.1 hf with hf | hf
    · simp only [List.mem_cons, List.mem_nil_iff, or_false] at hf
      rcases hf with rfl | rfl
      · exact awake0.mono (base_le _)
      · exact AEv.kind_true hm
    · exact AEv.leaf_true hh hn ht (rep_ok x.t ht) f hf
  obtain ⟨a1, a2⟩ := AEv.leaf_arg hh deep
  have h := AEv.calls_of_chk (E := EL k l) (fit (AEv.leafAll k l)) (show 60 ≤ 87 by decide) (AEv.sigma_lt x) hfacts closed hc (show AEv.WFs (baseMap (AEv.sigma x)) [AEv.leafArg l deep, .bool only] from ⟨a1, trivial, trivial⟩) hT
  rw [AEv.concs, AEv.concs, AEv.concs, a2, AEv.conc] at h
  exact h.mono fun e w' hx => ⟨hx.1, hx.2.1⟩

theorem globs : Tryz.prog.globals.size = 6 := by kernel_rfl
set_option maxRecDepth 100000 in
theorem tabs_of_laid {W : World} (h : laidMetH Tryz.prog Rows.changeChecksRow.laid W) (hsh : W.ShapedOpen Tryz.prog) : TabsIn Tryz.prog tabs W := by
  rw [MakeChecks.laidMetH_plain _ _ _ (by kernel_rfl)] at h
  obtain ⟨ps, ⟨g0, t0, cs0, f0, p0, q0, hg0, ht0, hv0, hd0, ⟨g1, t1, cs1, f1, p1, q1, hg1, ht1, hv1, hd1, ⟨g2, t2, cs2, f2, p2, q2, hg2, ht2, hv2, hd2, _⟩, _⟩, _⟩, _⟩ := h
  clear hd0
  obtain rfl := Option.some.inj ((show Tryz.prog.globalNamed "math/bits.deBruijn64tab" = some 0 by kernel_rfl).symm.trans hg1)
  obtain rfl := Option.some.inj ((show (Tryz.prog.globals[0]?).map (·.type) = some 239 by kernel_rfl).symm.trans ht1)
  obtain rfl := Option.some.inj ((show Tryz.prog.globalNamed "internal/strconv.uint64pow10" = some 2 by kernel_rfl).symm.trans hg2)
  obtain rfl := Option.some.inj ((show (Tryz.prog.globals[2]?).map (·.type) = some 368 by kernel_rfl).symm.trans ht2)
  have c5 : Tryz.prog.cellsOf 5 = 1 := by kernel_rfl
  have c4 : Tryz.prog.cellsOf 93 = 1 := by kernel_rfl
  refine ⟨fun _ => none, fun p hp => ?_⟩
  rcases List.mem_cons.1 hp with rfl | hp
  · have h1 := AEv.cells_of_laid (zs := AEv.tab64.map Int.ofNat) Tryz.underlying239 Tryz.underlying5 c5 hd1 (by kernel_rfl)
    have := AEv.tab_in (β := fun _ => none) (t := 239) (n := 64) hsh (by rw [globs]; decide) (by kernel_rfl) hg1 hv1 h1 (by kernel_rfl)
    rwa [List.map_map] at this
  · rw [List.mem_singleton.1 hp]
    have h1 := AEv.cells_of_laid (zs := AEv.pow10.map Int.ofNat) Tryz.underlying368 Tryz.underlying93 c4 hd2 (by kernel_rfl)
    have := AEv.tab_in (β := fun _ => none) (t := 368) (n := 20) hsh (by rw [globs]; decide) (by kernel_rfl) hg2 hv2 h1 (by kernel_rfl)
    rwa [List.map_map] at this

theorem cell_of_take {l : List Value} {j : Nat} {v : Value} (h : (l.drop j).take 1 = [v]) : l[j]? = some v := by
  have := congrArg (fun m => m[0]?) h
  simpa using this
theorem cell_of_take2 {l : List Value} {i j n : Nat} {v : Value} (h : (((l.drop j).take n).drop i).take 1 = [v]) (hi : i < n) : l[j + i]? = some v := by
  have := cell_of_take h
  rw [List.getElem?_take, if_pos hi, List.getElem?_drop] at this
  exact this

set_option maxRecDepth 100000 in
theorem open_odd {H : Type} {enc : TypeId × Value → H} {W : World} {base : Nat} {v : Value} {d : DataW H} {ps : List MemPlace} (hv : Value.okWide Tryz.prog W .any base 25 v) (h : DataW.Trod enc Tryz.prog W 0 (fun _ => true) true 25 v d ps) :
    ∃ (x : Inp) (deep : Bool), v = .agg #[.int .u8 x.kind, .int .i32 (x.num 0), .int .i32 (x.num 1), .int .i32 (x.num 2), .int .i32 (x.num 3), .int .i32 (x.num 4), .int .i32 (x.num 5), .string x.name, .int .u16 (x.t : Nat), .string x.path, .bool deep] ∧
      (0 ≤ x.kind ∧ x.kind < 256) ∧ (∀ i, i < 6 → -2147483648 ≤ x.num i ∧ x.num i ≤ 2147483647) ∧ x.t ≤ 65535 := by
  obtain ⟨cs, rfl, hsz⟩ := okWide_struct Tryz.underlying25 hv
  obtain ⟨fuel, hf⟩ := h
  have hf : DataW.trod enc Tryz.prog W 0 (fun _ => true) true fuel 25 cs.toList = some (d, ps) := hf
  obtain ⟨xs, n, rfl, _, hlen, hx, hfl⟩ := DataW.trod_struct Tryz.underlying25 hf
  have k25 : Tryz.prog.cellsOf 25 = 11 := by kernel_rfl
  have k5 : Tryz.prog.cellsOf 5 = 1 := by kernel_rfl
  have k22 : Tryz.prog.cellsOf 22 = 6 := by kernel_rfl
  have k9 : Tryz.prog.cellsOf 9 = 1 := by kernel_rfl
  have k23 : Tryz.prog.cellsOf 23 = 1 := by kernel_rfl
  have k4 : Tryz.prog.cellsOf 4 = 1 := by kernel_rfl
  rw [k25] at hlen
  have hx6 : xs.length = 6 := hx
  have at_ : ∀ i, i < 6 → ∃ y, xs[i]? = some y := fun i hi => ⟨_, List.getElem?_eq_getElem (by omega)⟩
  obtain ⟨y0, z0⟩ := at_ 0 (by decide)
  obtain ⟨y1, z1⟩ := at_ 1 (by decide)
  obtain ⟨y2, z2⟩ := at_ 2 (by decide)
  obtain ⟨y3, z3⟩ := at_ 3 (by decide)
  obtain ⟨y4, z4⟩ := at_ 4 (by decide)
  obtain ⟨y5, z5⟩ := at_ 5 (by decide)
  have f0 : DataW.trod enc Tryz.prog W 0 (fun _ => true) true n 5 ((cs.toList.drop 0).take (Tryz.prog.cellsOf 5)) = some y0 := (hfl 0 _ rfl).trans z0
  rw [k5] at f0
  have f1 : DataW.trod enc Tryz.prog W 0 (fun _ => true) true n 22 ((cs.toList.drop 1).take (Tryz.prog.cellsOf 22)) = some y1 := (hfl 1 _ rfl).trans z1
  rw [k22] at f1
  have f2 : DataW.trod enc Tryz.prog W 0 (fun _ => true) true n 9 ((cs.toList.drop 7).take (Tryz.prog.cellsOf 9)) = some y2 := (hfl 2 _ rfl).trans z2
  rw [k9] at f2
  have f3 : DataW.trod enc Tryz.prog W 0 (fun _ => true) true n 23 ((cs.toList.drop 8).take (Tryz.prog.cellsOf 23)) = some y3 := (hfl 3 _ rfl).trans z3
  rw [k23] at f3
  have f4 : DataW.trod enc Tryz.prog W 0 (fun _ => true) true n 9 ((cs.toList.drop 9).take (Tryz.prog.cellsOf 9)) = some y4 := (hfl 4 _ rfl).trans z4
  rw [k9] at f4
  have f5 : DataW.trod enc Tryz.prog W 0 (fun _ => true) true n 4 ((cs.toList.drop 10).take (Tryz.prog.cellsOf 4)) = some y5 := (hfl 5 _ rfl).trans z5
  rw [k4] at f5
  obtain ⟨kind, e0, _, w0⟩ := DataW.trod_int Tryz.underlying5 f0
  obtain ⟨ys, m, _, _, _, hys, hel⟩ := DataW.trod_array Tryz.underlying22 f1
  obtain ⟨name, e2, _, _⟩ := DataW.trod_string Tryz.underlying9 f2
  obtain ⟨txt, e3, _, w3⟩ := DataW.trod_int Tryz.underlying23 f3
  obtain ⟨pth, e4, _, _⟩ := DataW.trod_string Tryz.underlying9 f4
  obtain ⟨deep, e5, _⟩ := DataW.trod_bool Tryz.underlying4 f5
  have kI : Tryz.prog.cellsOf 21 = 1 := by kernel_rfl
  have hnum : ∀ i, i < 6 → ∃ q : Int, cs.toList[1 + i]? = some (.int .i32 q) ∧ (-2147483648 ≤ q ∧ q ≤ 2147483647) := by
    intro i hi
    have hE := hel i hi
    rw [kI, Nat.mul_one, List.getElem?_eq_getElem (by omega)] at hE
    obtain ⟨q, g1, _, g2⟩ := DataW.trod_int Tryz.underlying21 hE
    refine ⟨q, cell_of_take2 g1 hi, ?_⟩
    have h1 : IntKind.i32.min = -2147483648 := rfl
    have h2 : IntKind.i32.max = 2147483647 := rfl
    simp only [Lit.wf, Bool.and_eq_true, decide_eq_true_eq, h1, h2] at g2
    exact g2
  have hk : 0 ≤ kind ∧ kind < 256 := by
    have h1 : IntKind.u8.min = 0 := rfl
    have h2 : IntKind.u8.max = 255 := rfl
    simp only [Lit.wf, Bool.and_eq_true, decide_eq_true_eq, h1, h2] at w0
    omega
  have ht : 0 ≤ txt ∧ txt ≤ 65535 := by
    have h1 : IntKind.u16.min = 0 := rfl
    have h2 : IntKind.u16.max = 65535 := rfl
    simp only [Lit.wf, Bool.and_eq_true, decide_eq_true_eq, h1, h2] at w3
    omega
  let num : Nat → Int := fun i => if h : i < 6 then (hnum i h).choose else 0
  have num_ok : ∀ i (hi : i < 6), cs.toList[1 + i]? = some (.int .i32 (num i)) ∧ (-2147483648 ≤ num i ∧ num i ≤ 2147483647) := by
    intro i hi
    have : num i = (hnum i hi).choose := dif_pos hi
    rw [this]
    exact (hnum i hi).choose_spec
  refine ⟨⟨kind, num, name, txt.toNat, pth⟩, deep, ?_, hk, fun i hi => (num_ok i hi).2, by show txt.toNat ≤ 65535; omega⟩
  congr 1
  apply Array.toList_inj.1
  apply List.ext_getElem?
  intro j
  have htx : ((txt.toNat : Nat) : Int) = txt := by omega
  match j with
  | 0 => exact cell_of_take e0
  | 1 => exact (num_ok 0 (by decide)).1
  | 2 => exact (num_ok 1 (by decide)).1
  | 3 => exact (num_ok 2 (by decide)).1
  | 4 => exact (num_ok 3 (by decide)).1
  | 5 => exact (num_ok 4 (by decide)).1
  | 6 => exact (num_ok 5 (by decide)).1
  | 7 => exact cell_of_take e2
  | 8 => simp only [htx]; exact cell_of_take e3
  | 9 => exact cell_of_take e4
  | 10 => exact cell_of_take e5
  | n + 11 => rw [List.getElem?_eq_none (by omega)]; rfl

set_option maxRecDepth 100000 in
theorem lifted (os : Os) (started : os.Started) (H : Type) (enc : TypeId × Value → H) :
    ReturnsInHanded {} Tryz.checked os 3 .any (fun w args => (Rows.changeChecksSpec.pre enc Tryz.prog Tryz.f3 [] false w args ∧ laidMetH Tryz.prog Rows.changeChecksRow.laid w) ∧ sizedMet enc Tryz.prog Tryz.f3 (OpenSpec.ofChange Rows.changeChecksSpec) false w args)
      (Rows.changeChecksSpec.post enc Tryz.prog Tryz.f3 false true false false) := by
  refine AEv.lifted_of_calls (C := Tryz.checked) (tb := 4) own started (by kernel_rfl) Tryz.func3 (by kernel_rfl) (by kernel_rfl) rfl (by kernel_rfl) Tryz.underlying4 ?_
    (ChangeSpec.witness_shaped (enc := enc) (C := Tryz.checked) (os := os) (X := fun w _ => laidMetH Tryz.prog Rows.changeChecksRow.laid w) false (World.laidAll Tryz.prog os Rows.changeChecksRow.laid)
      #[.agg #[.int .u8 0, .int .i32 0, .int .i32 0, .int .i32 0, .int .i32 0, .int .i32 0, .int .i32 0, .string .empty, .int .u16 0, .string .empty, .bool false], .bool false] 8 (World.laidAll_os _ _ _)
      (World.shaped_of_ZipB (by kernel_rfl) (by kernel_rfl)) (by kernel_rfl) (by kernel_rfl) (by kernel_rfl)
      (by rw [MakeChecks.laidMetH_plain _ _ _ (by kernel_rfl)]; exact laidMet_laidAll _ (by kernel_rfl) (by kernel_rfl))) ?_
  · intro ds hds
    have hds : ds.length = 2 := by rw [hds, Tryz.params3]; rfl
    match ds, hds with
    | [_, _], _ => rfl
  · intro W base args ds ps hval0 hA0 hL hsh
    have hval : ∀ (j : Nat) t v, Tryz.f3.params[j]? = some t → args[j]? = some v → Value.okWide Tryz.prog W .any base t v := hval0
    have hA : DataW.TrodAll enc Tryz.prog W 0 (fun _ => true) true Tryz.f3.params.toList args.toList ds ps := hA0
    rw [Tryz.params3] at hA hval
    obtain ⟨v0, vs0, d0, ds0, p0, q0, hargs, rfl, rfl, h0, r0⟩ := trodAll_cons hA
    obtain ⟨v1, vs1, d1, ds1, p1, q1, rfl, rfl, rfl, h1, r1⟩ := trodAll_cons r0
    obtain ⟨rfl, rfl, rfl⟩ := trodAll_nil r1
    obtain rfl : args = #[v0, v1] := by cases args; simp_all
    obtain ⟨x, deep, rfl, hk, hn, ht⟩ := open_odd (hval 0 25 v0 rfl rfl) h0
    obtain ⟨only, rfl, rfl, rfl⟩ := open_bool Tryz.underlying4 (hval 1 4 v1 rfl rfl) h1
    exact walk x hk hn ht deep only W (tabs_of_laid hL hsh)
end Go.Proofs.YteokcfkggfapkaaGreatDoor
