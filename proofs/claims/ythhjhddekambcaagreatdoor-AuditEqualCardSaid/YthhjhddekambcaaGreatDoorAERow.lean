/- Which records are equal: the row's step. Conditions: the listed package variables hold what the row says. -/
import Derived.Test.YthhjhddekambcaaGreatDoorAEZK
import Derived.Test.YthhjhddekambcaaGreatDoorAETA
import Derived.Test.YthhjhddekambcaaGreatDoorAETB
import Derived.Test.YthhjhddekambcaaGreatDoorAETC
import Derived.Test.YthhjhddekambcaaGreatDoorAEVA
import Derived.Test.YthhjhddekambcaaGreatDoorEvSe
import Derived.Test.YthhjhddekambcaaGreatDoorCards
import Derived.ProofKit
import Derived.Deep.Slices
import Derived.LaidMore
import Derived.Lay
import Derived.Stop.Joined
namespace Go.Proofs.YthhjhddekambcaaGreatDoor
open Go.ChangeShapes Go.WideShapes Go.ChangeAt Go.RowKit
open Go.AEv (tabs Tab0 Sl4 ItIn)
theorem own : ownKnob Tryz.prog.godebug = none := by kernel_rfl
theorem globs : Tryz.prog.globals.size = 8 := by kernel_rfl
theorem c5 : Tryz.prog.cellsOf 5 = 1 := by kernel_rfl
theorem c3 : Tryz.prog.cellsOf 3 = 1 := by kernel_rfl
theorem c4 : Tryz.prog.cellsOf 4 = 1 := by kernel_rfl
theorem c83 : Tryz.prog.cellsOf 83 = 1 := by kernel_rfl
set_option maxRecDepth 100000 in
theorem tabs_of_laid {W : World} (h : laidMetH Tryz.prog Rows.auditEqualRow.laid W) (hsh : W.ShapedOpen Tryz.prog) : Tab0 W := by
  rw [MakeChecks.laidMetH_plain _ _ _ wn] at h
  obtain ⟨ps, ⟨g0, t0, cs0, f0, p0, q0, hg0, ht0, hv0, hd0, ⟨g1, t1, cs1, f1, p1, q1, hg1, ht1, hv1, hd1, ⟨g2, t2, cs2, f2, p2, q2, hg2, ht2, hv2, hd2, ⟨g3, t3, cs3, f3, p3, q3, hg3, ht3, hv3, hd3, ⟨g4, t4, cs4, f4, p4, q4, hg4, ht4, hv4, hd4, ⟨g5, t5, cs5, f5, p5, q5, hg5, ht5, hv5, hd5, _⟩, _⟩, _⟩, _⟩, _⟩, _⟩, _⟩ := h
  clear hd0 hd3
  obtain rfl := Option.some.inj ((show Tryz.prog.globalNamed "math/bits.deBruijn64tab" = some 3 by kernel_rfl).symm.trans hg1)
  obtain rfl := Option.some.inj ((show (Tryz.prog.globals[3]?).map (·.type) = some 375 by kernel_rfl).symm.trans ht1)
  obtain rfl := Option.some.inj ((show Tryz.prog.globalNamed "internal/strconv.uint64pow10" = some 6 by kernel_rfl).symm.trans hg2)
  obtain rfl := Option.some.inj ((show (Tryz.prog.globals[6]?).map (·.type) = some 613 by kernel_rfl).symm.trans ht2)
  obtain rfl := Option.some.inj ((show Tryz.prog.globalNamed "arbac/keccak.rounds" = some 1 by kernel_rfl).symm.trans hg4)
  obtain rfl := Option.some.inj ((show (Tryz.prog.globals[1]?).map (·.type) = some 371 by kernel_rfl).symm.trans ht4)
  obtain rfl := Option.some.inj ((show Tryz.prog.globalNamed "arbac/keccak.turns" = some 2 by kernel_rfl).symm.trans hg5)
  obtain rfl := Option.some.inj ((show (Tryz.prog.globals[2]?).map (·.type) = some 374 by kernel_rfl).symm.trans ht5)
  letI := AEv.unk0
  let β : AEv.Inj := fun g => if g < 100 then some (g, 0, 0) else none
  refine ⟨β, fun _ hg => if_pos hg, fun p hp => ?_⟩
  simp only [tabs, List.mem_cons, List.mem_nil_iff, or_false] at hp
  rcases hp with rfl | rfl | rfl | rfl
  · have h1 := AEv.cells_of_laid (zs := AEv.rounds.map Int.ofNat) Tryz.underlying371 Tryz.underlying83 c83 hd4 (by kernel_rfl)
    have := AEv.tab_in (β := β) (t := 371) (n := 24) hsh (by rw [globs]; decide) (by kernel_rfl) hg4 hv4 h1 (by kernel_rfl)
    rwa [List.map_map] at this
  · have h1 := AEv.cells_of_laid (zs := AEv.turns.map Int.ofNat) Tryz.underlying374 Tryz.underlying3 c3 hd5 (by kernel_rfl)
    have := AEv.tab_in (β := β) (t := 374) (n := 25) hsh (by rw [globs]; decide) (by kernel_rfl) hg5 hv5 h1 (by kernel_rfl)
    rwa [List.map_map] at this
  · have h1 := AEv.cells_of_laid (zs := AEv.tab64.map Int.ofNat) Tryz.underlying375 Tryz.underlying5 c5 hd1 (by kernel_rfl)
    have := AEv.tab_in (β := β) (t := 375) (n := 64) hsh (by rw [globs]; decide) (by kernel_rfl) hg1 hv1 h1 (by kernel_rfl)
    rwa [List.map_map] at this
  · have h1 := AEv.cells_of_laid (zs := AEv.pow10.map Int.ofNat) Tryz.underlying613 Tryz.underlying83 c83 hd2 (by kernel_rfl)
    have := AEv.tab_in (β := β) (t := 613) (n := 20) hsh (by rw [globs]; decide) (by kernel_rfl) hg2 hv2 h1 (by kernel_rfl)
    rwa [List.map_map] at this

theorem cell_of_take {l : List Value} {j : Nat} {v : Value} (h : (l.drop j).take 1 = [v]) : l[j]? = some v := by
  have := congrArg (fun m => m[0]?) h
  simpa using this
theorem u8_nat {n : Int} (w : (Lit.int .u8 n).wf = true) : ∃ m : Nat, n = m ∧ m < 256 := by
  have h1 : IntKind.u8.min = 0 := rfl
  have h2 : IntKind.u8.max = 255 := rfl
  simp only [Lit.wf, Bool.and_eq_true, decide_eq_true_eq, h1, h2] at w
  exact ⟨n.toNat, by omega, by omega⟩
theorem choose_all {p : Nat → Nat → Prop} {n : Nat} (h : ∀ i, i < n → ∃ b, p i b) : ∃ B : Nat → Nat, ∀ i, i < n → p i (B i) := by
  exact ⟨fun i => if hi : i < n then (h i hi).choose else 0, fun i hi => by show p i (if hi : i < n then (h i hi).choose else 0); rw [dif_pos hi]; exact (h i hi).choose_spec⟩
section
variable {H : Type} {enc : TypeId × Value → H} {W : World}
/-- a slice of bytes that is handed in -/
theorem open_sl {n : Nat} {cs : List Value} {x : DataW H × List MemPlace} {t : TypeId} (ht : Tryz.prog.underlying t = some (.slice 5)) (h : DataW.trod enc Tryz.prog W 0 (fun _ => true) true n t cs = some x) : ∃ s : Sl4, s.Ok ∧ s.In W ∧ cs = [s.val] := by
  rcases Go.Deep.open_slice1 ht c5 h with ⟨rfl, _⟩ | ⟨a, len, cap, m, k, V, D, Pl, rfl, _, hle, _, hm, _, hx⟩
  · refine ⟨⟨none, 0, 0, []⟩, ⟨rfl, Nat.le_refl _, (fun b hb => absurd hb (by intro h; cases h)), fun h => absurd rfl h⟩, (fun b o hb _ => absurd hb (by intro h; cases h)), rfl⟩
  · have hm : m = cap := hm
    subst hm
    have hB : ∀ i, i < m → ∃ b : Nat, W.cell? (a.add i) = some (.int .u8 (b : Nat)) ∧ b < 256 := by
      intro i hi
      obtain ⟨h1, h2⟩ := hx i hi
      obtain ⟨z, e, _, wz⟩ := DataW.trod_int Tryz.underlying5 h2
      obtain ⟨b, rfl, hb⟩ := u8_nat wz
      refine ⟨b, ?_, hb⟩
      rw [h1]
      exact congrArg some (List.singleton_inj.1 e)
    obtain ⟨B, hB⟩ := choose_all hB
    have hget : ∀ i x, ((List.range (min len 4)).map B)[i]? = some x → i < len ∧ x = B i := by
      intro i x hx
      rw [List.getElem?_map] at hx
      obtain ⟨j, hj, rfl⟩ := Option.map_eq_some_iff.1 hx
      have hi := (List.getElem?_eq_some_iff.1 hj).1
      rw [List.length_range] at hi
      rw [List.getElem?_range hi] at hj
      cases hj
      exact ⟨by omega, rfl⟩
    have hspot : 0 < len → a.spot = none := by
      intro h0
      obtain ⟨h1, _⟩ := hB 0 (by omega)
      have h1 : W.cell? a = some (.int .u8 (B 0 : Nat)) := by
        have e : a.add 0 = a := by unfold Addr.add; simp
        rwa [e] at h1
      unfold World.cell? at h1
      split at h1
      · split at h1
        · cases h1
        · rename_i hs
          cases ha : a.spot with
          | none => rfl
          | some z => rw [ha] at hs; exact absurd rfl hs
      · cases h1
    refine ⟨⟨some a, len, m, (List.range (min len 4)).map B⟩, ⟨by simp, hle, ?_, ?_⟩, ?_, rfl⟩
    · intro b hb
      obtain ⟨i, hi⟩ := List.getElem?_of_mem hb
      obtain ⟨h1, rfl⟩ := hget i b hi
      exact (hB i (by omega)).2
    · intro hne
      have h0 : 0 < len := by
        rcases Nat.eq_zero_or_pos len with h | h
        · subst h; exact absurd rfl hne
        · exact h
      refine ⟨a.block, a.off, ?_⟩
      show some a = _
      rw [← hspot h0]
    · intro b o hb hne
      have hb : some a = some ⟨b, o, none⟩ := hb
      cases hb
      have h0 : 0 < len := by
        rcases Nat.eq_zero_or_pos len with h | h
        · subst h; exact absurd rfl hne
        · exact h
      have key : ∀ i, i < len → W.cell? ⟨b, o + i, none⟩ = some (.int .u8 (B i : Nat)) := by
        intro i hi
        have h1 := (hB i (by omega)).1
        have e : Addr.add ⟨b, o, none⟩ i = ⟨b, o + i, none⟩ := by unfold Addr.add; by_cases h : i = 0 <;> simp [h]
        rwa [e] at h1
      have k0 := key 0 h0
      unfold World.cell? at k0
      split at k0
      · rename_i arr t fz hh
        refine ⟨arr, t, fz, hh, fun i x hx => ?_⟩
        obtain ⟨h1, rfl⟩ := hget i x hx
        have := key i h1
        unfold World.cell? at this
        rw [hh] at this
        exact this
      · cases k0
theorem open_u8 {n : Nat} {cs : List Value} {x : DataW H × List MemPlace} (h : DataW.trod enc Tryz.prog W 0 (fun _ => true) true n 5 (cs.take (Tryz.prog.cellsOf 5)) = some x) : ∃ b : Nat, b < 256 ∧ cs.take 1 = [.int .u8 (b : Nat)] := by
  rw [c5] at h
  obtain ⟨z, e, _, wz⟩ := DataW.trod_int Tryz.underlying5 h
  obtain ⟨b, rfl, hb⟩ := u8_nat wz
  exact ⟨b, hb, e⟩
theorem open_bl {n : Nat} {cs : List Value} {x : DataW H × List MemPlace} (h : DataW.trod enc Tryz.prog W 0 (fun _ => true) true n 4 (cs.take (Tryz.prog.cellsOf 4)) = some x) : ∃ b : Bool, cs.take 1 = [.bool b] := by
  rw [c4] at h
  obtain ⟨b, e, _⟩ := DataW.trod_bool Tryz.underlying4 h
  exact ⟨b, e⟩
theorem sub_take {l : List Value} {i j n : Nat} {v : Value} (hj : j < n) (h : (((l.drop i).take n).drop j).take 1 = [v]) : l[i + j]? = some v := by
  have := cell_of_take h
  rw [List.getElem?_take, if_pos hj, List.getElem?_drop] at this
  exact this
set_option maxRecDepth 100000 in
theorem open_item {base : Nat} {v : Value} {d : DataW H} {ps : List MemPlace} (hv : Value.okWide Tryz.prog W .any base 28 v) (h : DataW.Trod enc Tryz.prog W 0 (fun _ => true) true 28 v d ps) :
    ∃ x : ItIn, x.Ok ∧ x.u.In W ∧ x.d.In W ∧ v = .agg x.vals.toArray := by
  obtain ⟨cs, rfl, hsz⟩ := okWide_struct Tryz.underlying28 hv
  obtain ⟨fuel, hf⟩ := h
  have hf : DataW.trod enc Tryz.prog W 0 (fun _ => true) true fuel 28 cs.toList = some (d, ps) := hf
  obtain ⟨xs, n, rfl, _, hlen, hx, hfl⟩ := DataW.trod_struct Tryz.underlying28 hf
  have k28 : Tryz.prog.cellsOf 28 = 14 := by kernel_rfl
  have k23 : Tryz.prog.cellsOf 23 = 3 := by kernel_rfl
  have k26 : Tryz.prog.cellsOf 26 = 5 := by kernel_rfl
  rw [k28] at hlen
  have hx8 : xs.length = 8 := hx
  have at_ : ∀ i, i < 8 → ∃ y, xs[i]? = some y := fun i hi => ⟨_, List.getElem?_eq_getElem (by omega)⟩
  obtain ⟨y0, z0⟩ := at_ 0 (by decide)
  obtain ⟨y1, z1⟩ := at_ 1 (by decide)
  obtain ⟨y2, z2⟩ := at_ 2 (by decide)
  obtain ⟨y3, z3⟩ := at_ 3 (by decide)
  obtain ⟨y4, z4⟩ := at_ 4 (by decide)
  obtain ⟨y5, z5⟩ := at_ 5 (by decide)
  obtain ⟨y6, z6⟩ := at_ 6 (by decide)
  obtain ⟨y7, z7⟩ := at_ 7 (by decide)
  obtain ⟨a0, b0, e0⟩ := open_u8 ((hfl 0 _ rfl).trans z0)
  obtain ⟨a1, b1, e1⟩ := open_u8 ((hfl 1 _ rfl).trans z1)
  obtain ⟨a2, b2, e2⟩ := open_u8 ((hfl 2 _ rfl).trans z2)
  obtain ⟨a3, b3, e3⟩ := open_u8 ((hfl 3 _ rfl).trans z3)
  obtain ⟨a7, e7⟩ := open_bl ((hfl 5 _ rfl).trans z5)
  obtain ⟨a8, e8⟩ := open_bl ((hfl 6 _ rfl).trans z6)
  have f4 : DataW.trod enc Tryz.prog W 0 (fun _ => true) true n 23 ((cs.toList.drop 4).take (Tryz.prog.cellsOf 23)) = some y4 := (hfl 4 _ rfl).trans z4
  have f7 : DataW.trod enc Tryz.prog W 0 (fun _ => true) true n 26 ((cs.toList.drop 9).take (Tryz.prog.cellsOf 26)) = some y7 := (hfl 7 _ rfl).trans z7
  obtain ⟨xa, na, rfl, _, _, hxa, hfa⟩ := DataW.trod_struct Tryz.underlying23 f4
  have hxa3 : xa.length = 3 := hxa
  have ata : ∀ i, i < 3 → ∃ y, xa[i]? = some y := fun i hi => ⟨_, List.getElem?_eq_getElem (by omega)⟩
  obtain ⟨ya0, za0⟩ := ata 0 (by decide)
  obtain ⟨ya1, za1⟩ := ata 1 (by decide)
  obtain ⟨ya2, za2⟩ := ata 2 (by decide)
  obtain ⟨a4, b4, e4⟩ := open_u8 ((hfa 0 _ rfl).trans za0)
  obtain ⟨a5, b5, e5⟩ := open_u8 ((hfa 1 _ rfl).trans za1)
  obtain ⟨a6, b6, e6⟩ := open_u8 ((hfa 2 _ rfl).trans za2)
  obtain ⟨xc, nc, hnc, _, _, hxc, hfc⟩ := DataW.trod_struct Tryz.underlying26 f7
  have hxc5 : xc.length = 5 := hxc
  have atc : ∀ i, i < 5 → ∃ y, xc[i]? = some y := fun i hi => ⟨_, List.getElem?_eq_getElem (by omega)⟩
  obtain ⟨yc0, zc0⟩ := atc 0 (by decide)
  obtain ⟨yc1, zc1⟩ := atc 1 (by decide)
  obtain ⟨yc2, zc2⟩ := atc 2 (by decide)
  obtain ⟨yc3, zc3⟩ := atc 3 (by decide)
  obtain ⟨yc4, zc4⟩ := atc 4 (by decide)
  obtain ⟨a9, b9, e9⟩ := open_u8 ((hfc 0 _ rfl).trans zc0)
  obtain ⟨a10, b10, e10⟩ := open_u8 ((hfc 1 _ rfl).trans zc1)
  obtain ⟨s11, o11, i11, e11⟩ := open_sl (by first | exact Tryz.underlying24 | rfl) ((hfc 2 _ rfl).trans zc2)
  obtain ⟨s12, o12, i12, e12⟩ := open_sl (by first | exact Tryz.underlying24 | rfl) ((hfc 3 _ rfl).trans zc3)
  obtain ⟨a13, e13⟩ := open_bl ((hfc 4 _ rfl).trans zc4)
  have k24 : Tryz.prog.cellsOf 24 = 1 := by kernel_rfl
  rw [k23] at e4 e5 e6
  rw [k26] at e9 e10 e11 e12 e13
  have e11 : (((cs.toList.drop 9).take 5).drop 2).take 1 = [s11.val] := by first | exact e11 | (rw [← k24]; exact e11)
  have e12 : (((cs.toList.drop 9).take 5).drop 3).take 1 = [s12.val] := by first | exact e12 | (rw [← k24]; exact e12)
  refine ⟨⟨a0, a1, a2, a3, a4, a5, a6, a7, a8, a9, a10, s11, s12, a13⟩, ⟨b0, b1, b2, b3, b4, b5, b6, b9, b10, o11, o12⟩, i11, i12, ?_⟩
  congr 1
  apply Array.toList_inj.1
  apply List.ext_getElem?
  intro j
  match j with
  | 0 => exact cell_of_take e0
  | 1 => exact cell_of_take e1
  | 2 => exact cell_of_take e2
  | 3 => exact cell_of_take e3
  | 4 => exact sub_take (i := 4) (j := 0) (by decide) e4
  | 5 => exact sub_take (i := 4) (j := 1) (by decide) e5
  | 6 => exact sub_take (i := 4) (j := 2) (by decide) e6
  | 7 => exact cell_of_take e7
  | 8 => exact cell_of_take e8
  | 9 => exact sub_take (i := 9) (j := 0) (by decide) e9
  | 10 => exact sub_take (i := 9) (j := 1) (by decide) e10
  | 11 => exact sub_take (i := 9) (j := 2) (by decide) e11
  | 12 => exact sub_take (i := 9) (j := 3) (by decide) e12
  | 13 => exact sub_take (i := 9) (j := 4) (by decide) e13
  | n + 14 => rw [List.getElem?_eq_none (by omega)]; rfl
end

set_option maxRecDepth 100000 in
theorem lifted (os : Os) (started : os.Started) (H : Type) (enc : TypeId × Value → H) :
    ReturnsInHanded {} Tryz.checked os 3 .any (fun w args => (Rows.auditEqualSpec.pre enc Tryz.prog Tryz.f3 [] false w args ∧ laidMetH Tryz.prog Rows.auditEqualRow.laid w) ∧ sizedMet enc Tryz.prog Tryz.f3 (OpenSpec.ofChange Rows.auditEqualSpec) false w args)
      (Rows.auditEqualSpec.post enc Tryz.prog Tryz.f3 false true false false) := by
  refine AEv.lifted_of_calls (C := Tryz.checked) (tb := 4) own started (by kernel_rfl) Tryz.func3 cf2 (by kernel_rfl) rfl (by kernel_rfl) Tryz.underlying4 ?_
    (ChangeSpec.witness_shaped (enc := enc) (C := Tryz.checked) (os := os) (X := fun w _ => laidMetH Tryz.prog Rows.auditEqualRow.laid w) false (World.laidAll Tryz.prog os Rows.auditEqualRow.laid)
      #[.agg #[.int .u8 0, .int .u8 0, .int .u8 0, .int .u8 0, .int .u8 0, .int .u8 0, .int .u8 0, .bool false, .bool false, .int .u8 0, .int .u8 0, .slice none 0 0, .slice none 0 0, .bool false], .agg #[.int .u8 0, .int .u8 0, .int .u8 0, .int .u8 0, .int .u8 0, .int .u8 0, .int .u8 0, .bool false, .bool false, .int .u8 0, .int .u8 0, .slice none 0 0, .slice none 0 0, .bool false]] 8 (World.laidAll_os _ _ _)
      (World.shaped_of_ZipB (wz os) (wh os)) (wo os) (wp os H enc) (ws os H enc)
      (by rw [MakeChecks.laidMetH_plain _ _ _ wn]; exact laidMet_laidAll _ (wf os) (wi os))) ?_
  · intro ds hds
    have hds : ds.length = 2 := by rw [hds, Tryz.params3]; rfl
    match ds, hds with
    | [_, _], _ => rfl
  · intro W base args ds ps hval0 hA0 hL hsh
    have hval : ∀ (j : Nat) t v, Tryz.f3.params[j]? = some t → args[j]? = some v → Value.okWide Tryz.prog W .any base t v := hval0
    have hA : DataW.TrodAll enc Tryz.prog W 0 (fun _ => true) true Tryz.f3.params.toList args.toList ds ps := hA0
    rw [Tryz.params3] at hA hval
    obtain ⟨v0, vs0, d0, ds0, p0, q0, hargs, rfl, rfl, h0, r0⟩ := trodAll_cons hA
    obtain ⟨v1, vs1, d1, ds1, p1, q1, rfl, rfl, rfl, h1, r1⟩ := trodAll_cons r0
    obtain ⟨rfl, rfl, rfl⟩ := trodAll_nil r1
    obtain rfl : args = #[v0, v1] := by cases args; simp_all
    obtain ⟨x, ox, xu, xd, rfl⟩ := open_item (hval 0 28 v0 rfl rfl) h0
    obtain ⟨y, oy, yu, yd, rfl⟩ := open_item (hval 1 28 v1 rfl rfl) h1
    exact AEv.law_call x y ox oy (tabs_of_laid hL hsh) xu xd yu yd
end Go.Proofs.YthhjhddekambcaaGreatDoor
