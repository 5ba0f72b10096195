/- Which records are equal: the opening call, and the new trail, as facts. Conditions: none. -/
import Derived.Test.YthhjhddekambcaaGreatDoorAE1A
import Derived.Test.YthhjhddekambcaaGreatDoorAE1B
import Derived.Test.YthhjhddekambcaaGreatDoorAE1C
import Derived.Test.YthhjhddekambcaaGreatDoorAE1D
import Derived.Test.YthhjhddekambcaaGreatDoorAE1E
import Derived.Test.YthhjhddekambcaaGreatDoorAE1F
import Derived.Test.YthhjhddekambcaaGreatDoorAE2
import Derived.Test.YthhjhddekambcaaGreatDoorAE3
import Derived.Test.YthhjhddekambcaaGreatDoorAEX
import Derived.Test.YthhjhddekambcaaGreatDoorAEC
import Derived.Test.YthhjhddekambcaaGreatDoorAEUV
import Derived.Test.YthhjhddekambcaaGreatDoorAEY00
import Derived.Test.YthhjhddekambcaaGreatDoorAEY01
import Derived.Test.YthhjhddekambcaaGreatDoorAEY10
import Derived.Test.YthhjhddekambcaaGreatDoorAEY11
/- Which records are equal: the opening call, and the new trail, as facts. Conditions: none. -/
namespace Go.AEv
open Go.Proofs
set_option linter.unusedSectionVars false
theorem closed0 : closedTabs tabs = true := by kernel_rfl
theorem permI {i : Nat} (hi : i < 6) : chkPermI i = true := by
  have : i = 0 ∨ i = 1 ∨ i = 2 ∨ i = 3 ∨ i = 4 ∨ i = 5 := by omega
  rcases this with rfl | rfl | rfl | rfl | rfl | rfl
  · exact perm0
  · exact perm1
  · exact perm2
  · exact perm3
  · exact perm4
  · exact perm5
theorem permP {p : List Nat × List Nat} (hp : p ∈ permL) : chkPerm p = true := by
  obtain ⟨i, hi, e⟩ := List.getElem_of_mem hp
  have h := permI (i := i) hi
  unfold chkPermI at h
  rw [List.getElem?_eq_getElem hi, e] at h
  exact h
section
variable [Unk] {val : Nat → Value}
theorem high_none : ∀ id, 300 ≤ id → Bm val id = none := by
  intro id h
  cases hx : Bm val id with
  | none => rfl
  | some x =>
    have hx : baseMap (sigOf val) id = some x := hx
    unfold baseMap at hx
    rw [if_neg (by omega)] at hx
    have := sig_lt id x hx
    omega
theorem facts_nil {l : List (Nat × ABlk)} : FactsOk (EnvT [] l) (Bm val) := by
  intro f hf
  cases (show f ∈ ([] : List Fact) from hf)
theorem perm_true : ∀ f ∈ permFs, FactTrue Tryz.prog tabs (Bm val) f := by
  intro f hf
  obtain ⟨p, hp, rfl⟩ := List.mem_map.1 hf
  have h := permP hp
  unfold chkPerm at h
  exact fact_memoG (E := E0) (fitT [] tabs) (β0 := Bm val) facts_nil (fun _ _ h => h) high_none closed0 h
theorem new_true : FactTrue Tryz.prog tabs (Bm val) newF := by
  have h := new1
  unfold chkNew at h
  exact fact_make (E := E0) (fitT [] tabs) (by decide) sig_lt facts_nil closed0 h trivial
theorem trail_true : FactTrue Tryz.prog tabs (Bm val) trailF := by
  have h := trail1
  unfold chkTrail at h
  exact fact_make (E := EnvOf permFs) (fitT permFs tabs) (by decide) sig_lt perm_true closed0 h trivial
theorem awake_true : FactTrue Tryz.prog tabs (Bm val) awakeF := by
  have h := awake1
  unfold chkAwake at h
  refine fact_call (E := EnvOf (permFs ++ [newF, trailF])) (fitT _ tabs) (by decide) sig_lt (fun f hf => ?_) closed0 h trivial trivial
  rcases List.mem_append.1 (show f ∈ permFs ++ [newF, trailF] from hf) with hf | hf
  · exact perm_true f hf
  · simp only [List.mem_cons, List.mem_nil_iff, or_false] at hf
    rcases hf with rfl | rfl
    · exact new_true
    · exact trail_true
end
end Go.AEv
/- Which records are equal: the law's answer, out of its pieces. Conditions: the items' bytes lie in memory. -/
namespace Go.AEv
open Go.Proofs
set_option linter.unusedSectionVars false

/-! ### A record in a memory -/
noncomputable def RecS.plain (R : RecS) : RecS := { R with version := if R.version < 0 then 0 else R.version, session := if R.session < 0 then 0 else R.session }
theorem RecS.plain_ok {R : RecS} (h : R.Ok) : R.plain.Plain := by
  have h1 := h.version
  have h2 := h.session
  refine { h with version := ?_, session := ?_, ver := ?_, ses := ?_ }
  · show -1 ≤ (if R.version < 0 then 0 else R.version) ∧ (if R.version < 0 then 0 else R.version) ≤ 4
    split <;> omega
  · show -250 ≤ (if R.session < 0 then 0 else R.session) ∧ (if R.session < 0 then 0 else R.session) ≤ 5
    split <;> omega
  · show 0 ≤ (if R.version < 0 then 0 else R.version)
    split <;> omega
  · show 0 ≤ (if R.session < 0 then 0 else R.session)
    split <;> omega
section
variable [Unk] {val : Nat → Value}
theorem sym_le {β : Inj} (hle : (Bm val).le β) {id : Nat} {v : Value} (h1 : 100 ≤ id) (h2 : id < 300) (e : val id = v) (hk : isKept v = true) : conc β (.sym id) = v := by
  rw [(WF.mono hle _ (sym_wf h2)).2]
  exact sym_at h1 h2 e hk
theorem recL_conc {β : Inj} (hle : (Bm val).le β) {R : RecS} {s v t b c n m : Nat} (hs : 100 ≤ s) (hs2 : s + 12 ≤ 300) (v1 : 100 ≤ v) (v2 : v < 300) (t1 : 100 ≤ t) (t2 : t < 300) (hv : val v = R.at 1) (ht : val t = R.at 3) (hi : ∀ i, i < 12 → i ≠ 1 → i ≠ 3 → val (s + i) = R.at i) :
    concs β (recL s v t b c n m) = R.l1 ++ conc β (osl1b b (Nat.add s 12) n) :: conc β (osl1b c (Nat.add s 13) m) :: R.l2 := by
  have k : ∀ i, i < 12 → i ≠ 1 → i ≠ 3 → conc β (.sym (Nat.add s i)) = R.at i := fun i h1 h2 h3 => sym_le hle (show 100 ≤ s + i by omega) (show s + i < 300 by omega) (hi i h1 h2 h3) (R.kept i)
  have k0 : conc β (.sym s) = R.at 0 := k 0 (by decide) (by decide) (by decide)
  unfold recL
  simp only [concs]
  rw [k0, sym_le hle v1 v2 hv (R.kept 1), k 2 (by decide) (by decide) (by decide), sym_le hle t1 t2 ht (R.kept 3), k 4 (by decide) (by decide) (by decide), k 5 (by decide) (by decide) (by decide), k 6 (by decide) (by decide) (by decide),
    k 7 (by decide) (by decide) (by decide), k 8 (by decide) (by decide) (by decide), k 9 (by decide) (by decide) (by decide), k 10 (by decide) (by decide) (by decide), k 11 (by decide) (by decide) (by decide)]
  rfl
theorem list_at {β : Inj} {H : Heap} {w : World} {o : Option ByteArray} {b q : Nat} (hR : Rel Tryz.prog β H w) (hrow : ∀ p ∈ row1 b q (cnt o), H.blk.get p.1 = some p.2) (hwf : WF β (osl1b b q (cnt o))) (hs : ∀ s, o = some s → conc β (.sym q) = .string s) : AtS w (conc β (osl1b b q (cnt o))) o := by
  cases o with
  | none => exact (show conc β .nilslice = .slice none 0 0 from rfl)
  | some s =>
    have hwf : WF β (.osl b (.sym q)) := hwf
    obtain ⟨x, hx⟩ := Option.isSome_iff_exists.1 hwf.1
    have hb : H.blk.get b = some (.ints 3 (.sym q)) := hrow (b, .ints 3 (.sym q)) List.mem_cons_self
    obtain ⟨arr, fz, g1, g2⟩ := hR.blk b _ x hb hx
    have e := hs s rfl
    obtain ⟨s', e', hc⟩ := g2.is
    rw [e] at e'
    cases e'
    refine ⟨x, arr, fz, ?_, g1, hc, g2.size, fun i c hc => g2.cell i c (by rw [e]; exact hc), g2.thaw⟩
    show conc β (.osl b (.sym q)) = _
    rw [conc, e]
    simp [sOf, Inj.addr, Inj.blk, Inj.sh, Inj.ext, hx]
theorem memoG_of {T : List (Nat × ABlk)} (hcl : closedTabs T = true) {f : FuncId} {segs : List Seg} {args : List AVal} {nx n : Nat} {rin rout : List (Nat × ABlk)} {r : AVal} (h1 : noTwice (keysOf rin) = true) (h2 : noTwice (keysOf rout) = true) (h3 : outOk 300 rout = true)
    (hm : MemoTrue Tryz.prog T (Bm val) f args nx rin rout r n) : FactTrue Tryz.prog T (Bm val) (.memoG f 300 segs args nx rin rout r n) := by
  refine ⟨Bm val, fun _ _ h => h, high_none, hm, putAll_self h1, outOk_mem h3, putAll_self h2, fun p hp => ?_⟩
  obtain ⟨c1, c2, c3⟩ := closedTabs_ok hcl p hp
  exact ⟨fun β β' x w hb hb' hr => closedB_ok hb hb' c2 hr, c3⟩
end

/-! ### What the symbols are -/
noncomputable def recVal (R : RecS) (i : Nat) : Value :=
  if i < 12 then R.at i else match i with
  | 12 => .string (R.up.getD .empty) | 13 => .string (R.down.getD .empty) | 14 => .int .i64 R.plain.version | 15 => .int .i64 R.plain.session | 16 => .string (str R.plain.toRec.bytes)
  | 17 => .int .i64 ((R.up.getD .empty).size : Nat) | 18 => .int .i64 ((R.down.getD .empty).size : Nat) | _ => .int .u8 0
def ItIn.at (x : ItIn) (i : Nat) : Value :=
  match i with
  | 0 => .int .u8 (x.ten : Nat) | 1 => .int .u8 (x.ver : Nat) | 2 => .int .u8 (x.day : Nat) | 3 => .int .u8 (x.odd : Nat) | 4 => .int .u8 (x.rs : Nat) | 5 => .int .u8 (x.ra : Nat) | 6 => .int .u8 (x.rp : Nat) | 7 => .bool x.granted | 8 => .bool x.right
  | 9 => .int .u8 (x.user : Nat) | 10 => .int .u8 (x.perm : Nat) | _ => .bool x.why
theorem ItIn.kept (x : ItIn) (i : Nat) : isKept (x.at i) = true := by
  unfold ItIn.at
  split <;> rfl
noncomputable def lawVal (R S : RecS) (x y : ItIn) (id : Nat) : Value := if id < 120 then recVal R (id - 100) else if id < 200 then recVal S (id - 120) else if id < 220 then x.at (id - 200) else y.at (id - 220)
@[reducible] def unkL (u d u2 d2 : Sl4) : Unk where
  val i := if i = 1000 then u.val else if i = 1001 then d.val else if i = 1002 then u2.val else if i = 1003 then d2.val else .int .u8 0
  plain i := by
    split
    · rfl
    · split
      · rfl
      · split
        · rfl
        · split <;> rfl
  place g := if g = 60 then u.place else if g = 61 then d.place else if g = 62 then u2.place else if g = 63 then d2.place else if g = 70 then (1000, 0, 0) else if g = 71 then (1001, 0, 0) else if g = 64 then (1002, 0, 0) else if g = 65 then (1003, 0, 0)
    else if 72 ≤ g ∧ g < 76 then u8At u.bs (g - 72) else if 76 ≤ g ∧ g < 80 then u8At d.bs (g - 76) else if 82 ≤ g ∧ g < 86 then u8At u2.bs (g - 82) else if 86 ≤ g ∧ g < 90 then u8At d2.bs (g - 86) else (g, 0, 0)
  glob g hg := by
    rw [if_neg (by omega), if_neg (by omega), if_neg (by omega), if_neg (by omega), if_neg (by omega), if_neg (by omega), if_neg (by omega), if_neg (by omega), if_neg (by omega), if_neg (by omega), if_neg (by omega), if_neg (by omega)]
theorem plc1 (u d u2 d2 : Sl4) (i : Nat) (hi : i < 4) : (unkL u d u2 d2).place (72 + i) = u8At u.bs i := by
  have : i = 0 ∨ i = 1 ∨ i = 2 ∨ i = 3 := by omega
  rcases this with rfl | rfl | rfl | rfl <;> rfl
theorem plc2 (u d u2 d2 : Sl4) (i : Nat) (hi : i < 4) : (unkL u d u2 d2).place (76 + i) = u8At d.bs i := by
  have : i = 0 ∨ i = 1 ∨ i = 2 ∨ i = 3 := by omega
  rcases this with rfl | rfl | rfl | rfl <;> rfl
theorem plc3 (u d u2 d2 : Sl4) (i : Nat) (hi : i < 4) : (unkL u d u2 d2).place (82 + i) = u8At u2.bs i := by
  have : i = 0 ∨ i = 1 ∨ i = 2 ∨ i = 3 := by omega
  rcases this with rfl | rfl | rfl | rfl <;> rfl
theorem plc4 (u d u2 d2 : Sl4) (i : Nat) (hi : i < 4) : (unkL u d u2 d2).place (86 + i) = u8At d2.bs i := by
  have : i = 0 ∨ i = 1 ∨ i = 2 ∨ i = 3 := by omega
  rcases this with rfl | rfl | rfl | rfl <;> rfl
noncomputable def lawT (a b c d : Nat) : List (Nat × ABlk) := tabs ++ [(60, viewB 72 a), (61, viewB 76 b), (62, viewB 82 c), (63, viewB 86 d)]
theorem closedL : (List.range 5).all (fun a => (List.range 5).all fun b => (List.range 5).all fun c => (List.range 5).all fun d => closedTabs (lawT a b c d)) = true := by kernel_rfl
theorem closedLT {a b c d : Nat} (ha : a < 5) (hb : b < 5) (hc : c < 5) (hd : d < 5) : closedTabs (lawT a b c d) = true :=
  List.all_eq_true.1 (List.all_eq_true.1 (List.all_eq_true.1 (List.all_eq_true.1 closedL a (List.mem_range.2 ha)) b (List.mem_range.2 hb)) c (List.mem_range.2 hc)) d (List.mem_range.2 hd)
theorem lawAll (b0 b1 b2 b3 : ABlk) {o1 o2 o3 o4 : Option ByteArray} (e : Bool) : chkLaw b0 b1 b2 b3 (cnt o1) (cnt o2) (cnt o3) (cnt o4) e = true :=
  nat4 (fun n m k l => chkLaw b0 b1 b2 b3 n m k l e) fun n m k l => by
    cases n <;> cases m <;> cases k <;> cases l <;> cases e
    · exact congrFun (congrFun (congrFun (congrFun law0000f b0) b1) b2) b3
    · exact congrFun (congrFun (congrFun (congrFun law0000t b0) b1) b2) b3
    · exact congrFun (congrFun (congrFun (congrFun law0001f b0) b1) b2) b3
    · exact congrFun (congrFun (congrFun (congrFun law0001t b0) b1) b2) b3
    · exact congrFun (congrFun (congrFun (congrFun law0010f b0) b1) b2) b3
    · exact congrFun (congrFun (congrFun (congrFun law0010t b0) b1) b2) b3
    · exact congrFun (congrFun (congrFun (congrFun law0011f b0) b1) b2) b3
    · exact congrFun (congrFun (congrFun (congrFun law0011t b0) b1) b2) b3
    · exact congrFun (congrFun (congrFun (congrFun law0100f b0) b1) b2) b3
    · exact congrFun (congrFun (congrFun (congrFun law0100t b0) b1) b2) b3
    · exact congrFun (congrFun (congrFun (congrFun law0101f b0) b1) b2) b3
    · exact congrFun (congrFun (congrFun (congrFun law0101t b0) b1) b2) b3
    · exact congrFun (congrFun (congrFun (congrFun law0110f b0) b1) b2) b3
    · exact congrFun (congrFun (congrFun (congrFun law0110t b0) b1) b2) b3
    · exact congrFun (congrFun (congrFun (congrFun law0111f b0) b1) b2) b3
    · exact congrFun (congrFun (congrFun (congrFun law0111t b0) b1) b2) b3
    · exact congrFun (congrFun (congrFun (congrFun law1000f b0) b1) b2) b3
    · exact congrFun (congrFun (congrFun (congrFun law1000t b0) b1) b2) b3
    · exact congrFun (congrFun (congrFun (congrFun law1001f b0) b1) b2) b3
    · exact congrFun (congrFun (congrFun (congrFun law1001t b0) b1) b2) b3
    · exact congrFun (congrFun (congrFun (congrFun law1010f b0) b1) b2) b3
    · exact congrFun (congrFun (congrFun (congrFun law1010t b0) b1) b2) b3
    · exact congrFun (congrFun (congrFun (congrFun law1011f b0) b1) b2) b3
    · exact congrFun (congrFun (congrFun (congrFun law1011t b0) b1) b2) b3
    · exact congrFun (congrFun (congrFun (congrFun law1100f b0) b1) b2) b3
    · exact congrFun (congrFun (congrFun (congrFun law1100t b0) b1) b2) b3
    · exact congrFun (congrFun (congrFun (congrFun law1101f b0) b1) b2) b3
    · exact congrFun (congrFun (congrFun (congrFun law1101t b0) b1) b2) b3
    · exact congrFun (congrFun (congrFun (congrFun law1110f b0) b1) b2) b3
    · exact congrFun (congrFun (congrFun (congrFun law1110t b0) b1) b2) b3
    · exact congrFun (congrFun (congrFun (congrFun law1111f b0) b1) b2) b3
    · exact congrFun (congrFun (congrFun (congrFun law1111t b0) b1) b2) b3

/-! ### The facts of one record -/
section
variable [Unk] {val : Nat → Value} {T : List (Nat × ABlk)}
structure Has (val : Nat → Value) (R : RecS) (s : Nat) : Prop where
  lo : 100 ≤ s
  hi : s + 20 ≤ 300
  is : ∀ i, i < 19 → val (s + i) = recVal R i
theorem Has.c {R : RecS} {s : Nat} (h : Has val R s) {β : Inj} (hle : (Bm val).le β) {i : Nat} {v : Value} (hi : i < 19) (e : recVal R i = v) (hk : isKept v = true) : conc β (.sym (Nat.add s i)) = v :=
  sym_le hle (show 100 ≤ s + i by have := h.lo; omega) (show s + i < 300 by have := h.hi; omega) ((h.is i hi).trans e) hk
theorem Has.w {R : RecS} {s : Nat} (h : Has val R s) {i : Nat} (hi : i < 19) : WF (Bm val) (.sym (Nat.add s i)) := sym_wf (show s + i < 300 by have := h.hi; omega)
theorem Has.recA {R : RecS} {s : Nat} (h : Has val R s) {β : Inj} (hle : (Bm val).le β) (b : Nat) (n m : Nat) : conc β (recA s b n m) = .agg (R.l1 ++ conc β (osl1b b (Nat.add s 12) n) :: conc β (osl1b (Nat.add b 1) (Nat.add s 13) m) :: R.l2).toArray := by
  have h1 := h.lo; have h2 := h.hi
  unfold AEv.recA
  rw [conc_agg, recL_conc hle h1 (by omega) (show 100 ≤ s + 1 by omega) (show s + 1 < 300 by omega) (show 100 ≤ s + 3 by omega) (show s + 3 < 300 by omega) (h.is 1 (by decide)) (h.is 3 (by decide)) (fun i hi _ _ => (h.is i (by omega)).trans (if_pos hi))]
theorem plain_at (R : RecS) {i : Nat} (h1 : i ≠ 1) (h3 : i ≠ 3) : R.plain.at i = R.at i := by
  unfold RecS.at
  split <;> first | rfl | (exfalso; first | exact h1 rfl | exact h3 rfl)
theorem Has.recP {R : RecS} {s : Nat} (h : Has val R s) {β : Inj} (hle : (Bm val).le β) (b : Nat) (n m : Nat) : conc β (recP s b n m) = .agg (R.plain.l1 ++ conc β (osl1b b (Nat.add s 12) n) :: conc β (osl1b (Nat.add b 1) (Nat.add s 13) m) :: R.plain.l2).toArray := by
  have h1 := h.lo; have h2 := h.hi
  unfold AEv.recP
  rw [conc_agg, recL_conc hle (R := R.plain) h1 (by omega) (show 100 ≤ s + 14 by omega) (show s + 14 < 300 by omega) (show 100 ≤ s + 15 by omega) (show s + 15 < 300 by omega) (h.is 14 (by decide)) (h.is 15 (by decide)) (fun i hi e1 e3 => (h.is i (by omega)).trans ((if_pos hi).trans (plain_at R e1 e3).symm))]
theorem Has.up {R : RecS} {s : Nat} (h : Has val R s) {β : Inj} (hle : (Bm val).le β) : ∀ t, R.up = some t → conc β (.sym (Nat.add s 12)) = .string t := fun t e => h.c hle (i := 12) (by decide) (by show Value.string (R.up.getD .empty) = _; rw [e]; rfl) rfl
theorem Has.down {R : RecS} {s : Nat} (h : Has val R s) {β : Inj} (hle : (Bm val).le β) : ∀ t, R.down = some t → conc β (.sym (Nat.add s 13)) = .string t := fun t e => h.c hle (i := 13) (by decide) (by show Value.string (R.down.getD .empty) = _; rw [e]; rfl) rfl
theorem rows_two (a b c d : Option ByteArray) (s t : Nat) : noTwice (keysOf (rowsR s 300 (cnt a) (cnt b) ++ rowsR t 302 (cnt c) (cnt d))) = true ∧ outOk 300 (rowsR s 300 (cnt a) (cnt b) ++ rowsR t 302 (cnt c) (cnt d)) = true := by
  cases a <;> cases b <;> cases c <;> cases d <;> exact ⟨rfl, rfl⟩
theorem rows_one (a b : Option ByteArray) (s q : Nat) : noTwice (keysOf (rowsR s 300 (cnt a) (cnt b))) = true ∧ noTwice (keysOf ((302, .text 5 (.sym q)) :: rowsR s 300 (cnt a) (cnt b))) = true ∧ outOk 300 ((302, .text 5 (.sym q)) :: rowsR s 300 (cnt a) (cnt b)) = true ∧ ∀ p ∈ rowsR s 300 (cnt a) (cnt b), p.1 < 302 := by
  refine ⟨?_, ?_, ?_, fun p hp => ?_⟩
  · cases a <;> cases b <;> rfl
  · cases a <;> cases b <;> rfl
  · cases a <;> cases b <;> rfl
  · have one : ∀ (o : Option ByteArray) (c q : Nat), p ∈ row1 c q (cnt o) → p.1 = c := by
      intro o c q h
      cases o with
      | none => cases h
      | some t => exact congrArg Prod.fst (List.mem_singleton.1 (show p ∈ [(c, ABlk.ints 3 (.sym q))] from h))
    rcases List.mem_append.1 hp with hp | hp
    · rw [one _ _ _ hp]; decide
    · rw [one _ _ _ hp]; decide
/-- two records in a memory, compared -/
theorem equal_memo (hcl : closedTabs T = true) {R S : RecS} {segs : List Seg} {p q : AVal} {s t : Nat} {e : Bool} (hR1 : SmallO R.up) (hR2 : SmallO R.down) (hS1 : SmallO S.up) (hS2 : SmallO S.down)
    (hp : ∀ β, (Bm val).le β → WF β p → WF β (osl1b 300 (Nat.add s 12) (cnt R.up)) ∧ WF β (osl1b 301 (Nat.add s 13) (cnt R.down)) ∧ conc β p = .agg (R.l1 ++ conc β (osl1b 300 (Nat.add s 12) (cnt R.up)) :: conc β (osl1b 301 (Nat.add s 13) (cnt R.down)) :: R.l2).toArray)
    (hq : ∀ β, (Bm val).le β → WF β q → WF β (osl1b 302 (Nat.add t 12) (cnt S.up)) ∧ WF β (osl1b 303 (Nat.add t 13) (cnt S.down)) ∧ conc β q = .agg (S.l1 ++ conc β (osl1b 302 (Nat.add t 12) (cnt S.up)) :: conc β (osl1b 303 (Nat.add t 13) (cnt S.down)) :: S.l2).toArray)
    (hs1 : ∀ β, (Bm val).le β → ∀ z, R.up = some z → conc β (.sym (Nat.add s 12)) = .string z) (hs2 : ∀ β, (Bm val).le β → ∀ z, R.down = some z → conc β (.sym (Nat.add s 13)) = .string z)
    (ht1 : ∀ β, (Bm val).le β → ∀ z, S.up = some z → conc β (.sym (Nat.add t 12)) = .string z) (ht2 : ∀ β, (Bm val).le β → ∀ z, S.down = some z → conc β (.sym (Nat.add t 13)) = .string z)
    (he : e = true ↔ ∀ i, i < 14 → R.same S i = true) {r : AVal} (hr : r = boolV e) :
    FactTrue Tryz.prog T (Bm val) (.memoG 16 300 segs [p, q] 304 (rowsR s 300 (cnt R.up) (cnt R.down) ++ rowsR t 302 (cnt S.up) (cnt S.down)) (rowsR s 300 (cnt R.up) (cnt R.down) ++ rowsR t 302 (cnt S.up) (cnt S.down)) r 304) := by
  subst hr
  obtain ⟨k1, k2⟩ := rows_two R.up R.down S.up S.down s t
  refine memoG_of hcl k1 k1 k2 (memo_read (putAll_self k1) (by cases e <;> rfl) (fun β => by cases e <;> exact trivial) fun β' H w hle hRel hat htabs hin hargs => ?_)
  obtain ⟨w1, w2, _⟩ := hargs
  obtain ⟨a1, a2, a3⟩ := hp β' hle w1
  obtain ⟨b1, b2, b3⟩ := hq β' hle w2
  have r1 := list_at hRel (fun p hp => hin p (List.mem_append_left _ (List.mem_append_left _ hp))) a1 (hs1 β' hle)
  have r2 := list_at hRel (fun p hp => hin p (List.mem_append_left _ (List.mem_append_right _ hp))) a2 (hs2 β' hle)
  have r3 := list_at hRel (fun p hp => hin p (List.mem_append_right _ (List.mem_append_left _ hp))) b1 (ht1 β' hle)
  have r4 := list_at hRel (fun p hp => hin p (List.mem_append_right _ (List.mem_append_right _ hp))) b2 (ht2 β' hle)
  simp only [concs]
  rw [a3, b3]
  refine (equal_call R S hR1 hR2 hS1 hS2 r1 r2 r3 r4).mono fun e' w2 hx => ?_
  obtain ⟨hg, b, rfl, hb⟩ := hx
  have : b = e := by
    cases b <;> cases e <;> first | rfl | (exfalso; have := hb.trans he.symm; simp at this)
  subst this
  refine ⟨?_, hg⟩
  cases b <;> rfl
theorem rec_true (hcl : closedTabs T = true) {R : RecS} (hR : R.Ok) {s : Nat} (h : Has val R s) : ∀ f ∈ recF s (cnt R.up) (cnt R.down), FactTrue Tryz.prog T (Bm val) f := by
  have refl : (Bm val).le (Bm val) := fun _ _ h => h
  have clone : ∀ (o : Option ByteArray) (q r : Nat), SmallO o → 100 ≤ q → q < 300 → 100 ≤ r → r < 300 → (∀ t, o = some t → val q = .string t ∧ val r = .int .i64 (t.size : Nat)) → ∀ f ∈ cloneF q r (cnt o), FactTrue Tryz.prog T (Bm val) f := by
    intro o q r ho q1 q2 r1 r2 hv f hf
    cases o with
    | none => cases hf
    | some t =>
      obtain ⟨e1, e2⟩ := hv t rfl
      have hs := small_len (ho t rfl)
      replace hf : f ∈ [someF q, .len (.sym q) (.sym r), .bin .gtr (.sym r) (.int .i64 (.ofNat 100000000)) (.bool false)] := hf
      simp only [List.mem_cons, List.mem_nil_iff, or_false] at hf
      rcases hf with rfl | rfl | rfl
      · exact some_true q1 q2 e1 hs.1
      · exact f_len (sym_wf q2) (sym_wf r2) (sym_at q1 q2 e1 rfl) (sym_at r1 r2 e2 rfl)
      · exact f_gtr (sym_wf r2) (sym_at r1 r2 e2 rfl) (by omega)
  have h1 := h.lo; have h2 := h.hi
  intro f hf
  unfold recF at hf
  rcases List.mem_append.1 hf with hf | hf
  · rcases List.mem_append.1 hf with hf | hf
    · simp only [List.mem_cons, List.mem_nil_iff, or_false] at hf
      rcases hf with rfl | rfl | rfl
      · exact f_max (h.w (by decide)) trivial (h.w (by decide)) (h.c refl (i := 1) (by decide) (show recVal R 1 = .int .i64 R.version from rfl) rfl) rfl (h.c refl (i := 14) (by decide) rfl rfl)
      · exact f_max (h.w (by decide)) trivial (h.w (by decide)) (h.c refl (i := 3) (by decide) (show recVal R 3 = .int .i64 R.session from rfl) rfl) rfl (h.c refl (i := 15) (by decide) rfl rfl)
      · obtain ⟨k1, k2, k3, k4⟩ := rows_one R.up R.down s (Nat.add s 16)
        refine memoG_of hcl k1 k2 k3 (memo_text (putAll_self k1) rfl k4 (h.w (by decide)) (h.c refl (i := 16) (by decide) (show recVal R 16 = .string (str R.plain.toRec.bytes) from rfl) rfl) fun β' H w hle hRel hat htabs hin hargs => ?_)
        obtain ⟨⟨_, _, _, _, _, _, _, _, _, w1, w2, _⟩, _⟩ := hargs
        have r1 := list_at hRel (fun p hp => hin p (List.mem_append_left _ hp)) w1 (h.up hle)
        have r2 := list_at hRel (fun p hp => hin p (List.mem_append_right _ hp)) w2 (h.down hle)
        simp only [concs]
        rw [h.recP hle]
        exact bytes_call R.plain (RecS.plain_ok hR) r1 r2
    · exact clone R.up (Nat.add s 12) (Nat.add s 17) hR.up (show 100 ≤ s + 12 by omega) (show s + 12 < 300 by omega) (show 100 ≤ s + 17 by omega) (show s + 17 < 300 by omega) (fun t e => ⟨(h.is 12 (by decide)).trans (by show Value.string (R.up.getD .empty) = _; rw [e]; rfl), (h.is 17 (by decide)).trans (by show Value.int .i64 ((R.up.getD .empty).size : Nat) = _; rw [e]; rfl)⟩) f hf
  · exact clone R.down (Nat.add s 13) (Nat.add s 18) hR.down (show 100 ≤ s + 13 by omega) (show s + 13 < 300 by omega) (show 100 ≤ s + 18 by omega) (show s + 18 < 300 by omega) (fun t e => ⟨(h.is 13 (by decide)).trans (by show Value.string (R.down.getD .empty) = _; rw [e]; rfl), (h.is 18 (by decide)).trans (by show Value.int .i64 ((R.down.getD .empty).size : Nat) = _; rw [e]; rfl)⟩) f hf
end
end Go.AEv
/- Which records are equal: the law answers true, whatever the two items. Conditions: their bytes lie in memory. -/
namespace Go.AEv
open Go.Proofs
set_option linter.unusedSectionVars false

theorem item_conc [Unk] {val : Nat → Value} {x : ItIn} {s u d : Nat} (hs : 100 ≤ s) (hs2 : s + 12 ≤ 300) (hv : ∀ i, i < 12 → val (s + i) = x.at i) (hu : u < 300) (hd : d < 300) (e1 : conc (Bm val) (.sym u) = x.u.val) (e2 : conc (Bm val) (.sym d) = x.d.val) :
    WF (Bm val) (itemA s u d) ∧ conc (Bm val) (itemA s u d) = .agg x.vals.toArray := by
  have c : ∀ i, i < 12 → conc (Bm val) (.sym (Nat.add s i)) = x.at i := fun i hi => sym_at (show 100 ≤ s + i by omega) (show s + i < 300 by omega) (hv i hi) (x.kept i)
  have wf : ∀ i, i < 12 → WF (Bm val) (.sym (Nat.add s i)) := fun i hi => sym_wf (show s + i < 300 by omega)
  refine ⟨⟨wf 0 (by decide), wf 1 (by decide), wf 2 (by decide), wf 3 (by decide), wf 4 (by decide), wf 5 (by decide), wf 6 (by decide), wf 7 (by decide), wf 8 (by decide), wf 9 (by decide), wf 10 (by decide), sym_wf hu, sym_wf hd, wf 11 (by decide), trivial⟩, ?_⟩
  unfold itemA
  rw [conc_agg]
  have c0 : conc (Bm val) (.sym s) = x.at 0 := c 0 (by decide)
  simp only [concs]
  rw [c0, c 1 (by decide), c 2 (by decide), c 3 (by decide), c 4 (by decide), c 5 (by decide), c 6 (by decide), c 7 (by decide), c 8 (by decide), c 9 (by decide), c 10 (by decide), e1, e2, c 11 (by decide)]
  rfl
theorem fit_true [Unk] {val : Nat → Value} {T : List (Nat × ABlk)} {x : ItIn} {R : RecS} {s u d i : Nat} (hi : 100 ≤ i) (hi2 : i + 12 ≤ 300) (hv : ∀ j, j < 12 → val (i + j) = x.at j) (hu : u < 300) (hd : d < 300) (e1 : conc (Bm val) (.sym u) = x.u.val) (e2 : conc (Bm val) (.sym d) = x.d.val) (h : Has val R s)
    (hc : ∀ w, TabsIn Tryz.prog T w → Calls Tryz.prog 5 x.args w fun e w2 => Grown w w2 ∧ TwoRet w w2 R.l1 R.l2 R.up R.down e) : FactTrue Tryz.prog T (Bm val) (fitLF i u d s (cnt R.up) (cnt R.down)) := by
  have refl : (Bm val).le (Bm val) := fun _ _ h => h
  have h1 := h.lo; have h2 := h.hi
  obtain ⟨g1, g2⟩ := item_conc hi hi2 hv hu hd e1 e2
  have k : ∀ i, i < 12 → conc (Bm val) (.sym (Nat.add s i)) = R.at i := fun i hi => h.c refl (by omega) (if_pos hi) (R.kept i)
  have k0 : conc (Bm val) (.sym s) = R.at 0 := k 0 (by decide)
  have lo : ∀ i, i < 20 → lowV 300 (.sym (Nat.add s i)) = true := fun i hi => by show decide (s + i < 300) = true; exact decide_eq_true (by omega)
  have qU : OptQ (Bm val) (Nat.add s 12) R.up := by
    cases ho : R.up with
    | none => trivial
    | some t => exact ⟨h.w (by decide), h.up refl t ho⟩
  have qD : OptQ (Bm val) (Nat.add s 13) R.down := by
    cases ho : R.down with
    | none => trivial
    | some t => exact ⟨h.w (by decide), h.down refl t ho⟩
  have := make_two (P := Tryz.prog) (tabs := T) (β := Bm val) (f := 5) (args := [itemA i u d, i64c 1, .nilslice]) (N := 300) (q1 := Nat.add s 12) (q2 := Nat.add s 13) (t := 3) (o1 := R.up) (o2 := R.down)
    (l1 := [.sym s, .sym (Nat.add s 1), .sym (Nat.add s 2), .sym (Nat.add s 3), .sym (Nat.add s 4), .sym (Nat.add s 5), .sym (Nat.add s 6), .sym (Nat.add s 7), .sym (Nat.add s 8)]) (l2 := [.sym (Nat.add s 9), .sym (Nat.add s 10), .sym (Nat.add s 11)])
    ⟨g1, trivial, trivial, trivial⟩ (show s + 12 < 300 by omega) (show s + 13 < 300 by omega) qU qD
    (fun v hv => by
      simp only [List.mem_cons, List.mem_nil_iff, or_false] at hv
      rcases hv with rfl | rfl | rfl | rfl | rfl | rfl | rfl | rfl | rfl
      · exact lo 0 (by decide)
      all_goals exact lo _ (by decide))
    (fun v hv => by
      simp only [List.mem_cons, List.mem_nil_iff, or_false] at hv
      rcases hv with rfl | rfl | rfl
      all_goals exact lo _ (by decide))
    ⟨h.w (i := 0) (by decide), h.w (by decide), h.w (by decide), h.w (by decide), h.w (by decide), h.w (by decide), h.w (by decide), h.w (by decide), h.w (by decide), trivial⟩ ⟨h.w (by decide), h.w (by decide), h.w (by decide), trivial⟩
    (fun w hw => by
      simp only [concs]
      rw [g2]
      refine (hc w hw).mono fun e w2 hx => ⟨hx.1, ?_⟩
      obtain ⟨v1, v2, b1, b2, hne, he, hs1, hs2⟩ := hx.2
      refine ⟨v1, v2, b1, b2, hne, ?_, hs1, hs2⟩
      rw [he, k0, k 1 (by decide), k 2 (by decide), k 3 (by decide), k 4 (by decide), k 5 (by decide), k 6 (by decide), k 7 (by decide), k 8 (by decide), k 9 (by decide), k 10 (by decide), k 11 (by decide)]
      rfl)
  unfold fitLF
  have er : rowsR s 300 (cnt R.up) (cnt R.down) = optR 3 300 (Nat.add s 12) R.up ++ optR 3 (300 + 1) (Nat.add s 13) R.down := by
    unfold rowsR
    cases R.up <;> cases R.down <;> rfl
  have ev : recA s 300 (cnt R.up) (cnt R.down) = .agg ([.sym s, .sym (Nat.add s 1), .sym (Nat.add s 2), .sym (Nat.add s 3), .sym (Nat.add s 4), .sym (Nat.add s 5), .sym (Nat.add s 6), .sym (Nat.add s 7), .sym (Nat.add s 8)] ++ optV 300 (Nat.add s 12) R.up :: optV (300 + 1) (Nat.add s 13) R.down :: [.sym (Nat.add s 9), .sym (Nat.add s 10), .sym (Nat.add s 11)]) := by
    unfold recA recL
    cases R.up <;> cases R.down <;> rfl
  rw [er, ev]
  exact this

theorem bytes_equal {s t : ByteArray} (hs : s.size ≤ 9223372036854775807) (ht : t.size ≤ 9223372036854775807) {b o c b' o' c' : Nat} {w : World} (h1 : ∀ i (x : UInt8), s.data[i]? = some x → w.cell? ⟨b, o + i, none⟩ = some (.int .u8 x.toNat)) (h2 : ∀ i (x : UInt8), t.data[i]? = some x → w.cell? ⟨b', o' + i, none⟩ = some (.int .u8 x.toNat)) :
    Calls Tryz.prog 6 #[.slice (some ⟨b, o, none⟩) s.size c, .slice (some ⟨b', o', none⟩) t.size c'] w fun e w2 => e = .returned (.bool (decide (sbytes s = sbytes t))) ∧ Grown w w2 := by
  have cells : ∀ (s : ByteArray) (b o : Nat), (∀ i (x : UInt8), s.data[i]? = some x → w.cell? ⟨b, o + i, none⟩ = some (.int .u8 x.toNat)) → ∀ j, j < (sbytes s).length → w.cell? ⟨b, o + j, none⟩ = some (.int .u8 ((sbytes s).getD j 0 : Nat)) := by
    intro s b o h j hj
    rw [sbytes_len] at hj
    have hd : s.data[j]? = some s.data[j] := Array.getElem?_eq_getElem hj
    rw [h j _ hd, List.getD_eq_getElem?_getD, sbytes_get, hd]
    rfl
  rw [← sbytes_len s, ← sbytes_len t]
  exact (YthhjhddekambcaaGreatDoor.eq6 (sbytes s) (sbytes t) b o c b' o' c' w (by rw [sbytes_len]; exact hs) (by rw [sbytes_len]; exact ht) (cells s b o h1) (cells t b' o' h2)).mono fun e w2 hx => by
    obtain ⟨rfl, q, rfl⟩ := hx
    exact ⟨rfl, grown_drew w q⟩

theorem law_call (x y : ItIn) (hx : x.Ok) (hy : y.Ok) {w : World} (h0 : Tab0 w) (hxu : x.u.In w) (hxd : x.d.In w) (hyu : y.u.In w) (hyd : y.d.In w) :
    Calls Tryz.prog 3 #[.agg x.vals.toArray, .agg y.vals.toArray] w fun e w2 => Grown w w2 ∧ e = .returned (.bool true) := by
  obtain ⟨R, hR, cR⟩ := item_call x hx
  obtain ⟨S, hS, cS⟩ := item_call y hy
  letI := unkL x.u x.d y.u y.d
  let val := lawVal R S x y
  let b0 := viewB 72 x.u.bs.length
  let b1 := viewB 76 x.d.bs.length
  let b2 := viewB 82 y.u.bs.length
  let b3 := viewB 86 y.d.bs.length
  let T := lawT x.u.bs.length x.d.bs.length y.u.bs.length y.d.bs.length
  let e : Bool := decide (sbytes (str R.plain.toRec.bytes) = sbytes (str S.plain.toRec.bytes))
  have refl : (Bm val).le (Bm val) := fun _ _ h => h
  have hcl : closedTabs T = true := by
    have h1 := hx.u.len; have h2 := hx.d.len; have h3 := hy.u.len; have h4 := hy.d.len
    exact closedLT (by omega) (by omega) (by omega) (by omega)
  have hRv : Has val R 100 := ⟨by decide, by decide, fun i hi => by show lawVal R S x y (100 + i) = _; unfold lawVal; rw [if_pos (by omega), Nat.add_sub_cancel_left]⟩
  have hSv : Has val S 120 := ⟨by decide, by decide, fun i hi => by show lawVal R S x y (120 + i) = _; unfold lawVal; rw [if_neg (by omega), if_pos (by omega), Nat.add_sub_cancel_left]⟩
  have hxv : ∀ i, i < 12 → val (200 + i) = x.at i := fun i hi => by show lawVal R S x y (200 + i) = _; unfold lawVal; rw [if_neg (by omega), if_neg (by omega), if_pos (by omega), Nat.add_sub_cancel_left]
  have hyv : ∀ i, i < 12 → val (220 + i) = y.at i := fun i hi => by show lawVal R S x y (220 + i) = _; unfold lawVal; rw [if_neg (by omega), if_neg (by omega), if_neg (by omega), Nat.add_sub_cancel_left]
  have p70 : conc (Bm val) (.sym 70) = x.u.val := opq (by decide) (show Unk.place 70 = (1000, 0, 0) from rfl) rfl
  have p71 : conc (Bm val) (.sym 71) = x.d.val := opq (by decide) (show Unk.place 71 = (1001, 0, 0) from rfl) rfl
  have p64 : conc (Bm val) (.sym 64) = y.u.val := opq (by decide) (show Unk.place 64 = (1002, 0, 0) from rfl) rfl
  have p65 : conc (Bm val) (.sym 65) = y.d.val := opq (by decide) (show Unk.place 65 = (1003, 0, 0) from rfl) rfl
  have hsub : ∀ p ∈ tabs, p ∈ T := fun p hp => List.mem_append_left _ hp
  have hT : TabsIn Tryz.prog T w := by
    refine ⟨fun id => some (Unk.place id), fun _ _ => rfl, fun p hp => ?_⟩
    rcases List.mem_append.1 hp with hp | hp
    · exact tab0_any h0 p hp
    · simp only [List.mem_cons, List.mem_nil_iff, or_false] at hp
      rcases hp with rfl | rfl | rfl | rfl
      · exact viewB_in hx.u hxu h0 (by decide) (fun _ _ => rfl) (plc1 x.u x.d y.u y.d)
      · exact viewB_in hx.d hxd h0 (by decide) (fun _ _ => rfl) (plc2 x.u x.d y.u y.d)
      · exact viewB_in hy.u hyu h0 (by decide) (fun _ _ => rfl) (plc3 x.u x.d y.u y.d)
      · exact viewB_in hy.d hyd h0 (by decide) (fun _ _ => rfl) (plc4 x.u x.d y.u y.d)
  have hT0 : ∀ w', TabsIn Tryz.prog T w' → Tab0 w' := fun w' h => tab0_of h
  have hTx : ∀ w', TabsIn Tryz.prog T w' → x.u.In w' ∧ x.d.In w' ∧ y.u.In w' ∧ y.d.In w' := by
    rintro w' ⟨β, e1, e2⟩
    have m : ∀ p ∈ [(60, b0), (61, b1), (62, b2), (63, b3)], BlkRel Tryz.prog β p.2 (Unk.place p.1) w' := fun p hp => e2 p (List.mem_append_right _ hp)
    exact ⟨in_view hx.u (by decide) e1 (plc1 x.u x.d y.u y.d) (m (60, b0) (by simp)), in_view hx.d (by decide) e1 (plc2 x.u x.d y.u y.d) (m (61, b1) (by simp)), in_view hy.u (by decide) e1 (plc3 x.u x.d y.u y.d) (m (62, b2) (by simp)), in_view hy.d (by decide) e1 (plc4 x.u x.d y.u y.d) (m (63, b3) (by simp))⟩
  have hPR := RecS.plain_ok hR
  have hPS := RecS.plain_ok hS
  have he : e = true ↔ ∀ i, i < 14 → R.plain.same S.plain i = true := by rw [← bytes_same hPR hPS]; exact decide_eq_true_iff
  have hf : FactsOk (EnvT (lawF (cnt R.up) (cnt R.down) (cnt S.up) (cnt S.down) e) T) (Bm val) := by
    intro f hf
    have hf : f ∈ lawF (cnt R.up) (cnt R.down) (cnt S.up) (cnt S.down) e := hf
    unfold lawF at hf
    rcases List.mem_append.1 hf with hf | hf
    · rcases List.mem_append.1 hf with hf | hf
      · simp only [List.mem_cons, List.mem_nil_iff, or_false] at hf
        rcases hf with rfl | rfl | rfl | rfl | rfl | rfl | rfl
        · exact CallTrue.sub awake_true hsub
        · exact MakeTrue.sub trail_true hsub
        · exact fit_true (by decide) (by decide) hxv (by decide) (by decide) p70 p71 hRv (fun w' hw' => cR w' (hT0 w' hw') (hTx w' hw').1 (hTx w' hw').2.1)
        · exact fit_true (by decide) (by decide) hyv (by decide) (by decide) p64 p65 hSv (fun w' hw' => cS w' (hT0 w' hw') (hTx w' hw').2.2.1 (hTx w' hw').2.2.2)
        · refine ⟨by cases e <;> exact trivial, fun w' vs β' hle _ hat => ?_⟩
          match vs, hat with
          | [v1, v2], ⟨h1, h2, _⟩ =>
            obtain ⟨_, s, b, o, c, e1, rfl, _, g1⟩ := h1
            obtain ⟨_, t, b', o', c', e2, rfl, _, g2⟩ := h2
            have q1 : conc β' (.sym 116) = .string (str R.plain.toRec.bytes) := hRv.c hle (i := 16) (by decide) rfl rfl
            have q2 : conc β' (.sym 136) = .string (str S.plain.toRec.bytes) := hSv.c hle (i := 16) (by decide) rfl rfl
            have e1 : conc β' (.sym 116) = .string s := e1
            have e2 : conc β' (.sym 136) = .string t := e2
            rw [q1] at e1
            rw [q2] at e2
            cases e1
            cases e2
            have z1 := RecS.bytes_len hPR
            have z2 := RecS.bytes_len hPS
            refine (bytes_equal (by rw [str_size]; omega) (by rw [str_size]; omega) g1 g2).mono fun e' w2 hx => ⟨?_, hx.2⟩
            rw [hx.1]
            show Ending.returned (Value.bool e) = .returned (conc (Bm val) (boolV e))
            cases e <;> rfl
        · exact equal_memo hcl (R := R.plain) (S := S.plain) hR.up hR.down hS.up hS.down
            (fun β hle hw => by
              obtain ⟨_, _, _, _, _, _, _, _, _, a1, a2, _⟩ := (show WF β (.agg _) from hw)
              exact ⟨a1, a2, hRv.recP hle 300 _ _⟩)
            (fun β hle hw => by
              obtain ⟨_, _, _, _, _, _, _, _, _, a1, a2, _⟩ := (show WF β (.agg _) from hw)
              exact ⟨a1, a2, hSv.recP hle 302 _ _⟩)
            (fun β hle => hRv.up hle) (fun β hle => hRv.down hle) (fun β hle => hSv.up hle) (fun β hle => hSv.down hle) he rfl
        · exact equal_memo hcl (R := R) (S := R) (e := true) hR.up hR.down hR.up hR.down
            (fun β hle hw => by
              obtain ⟨_, _, _, _, _, _, _, _, _, a1, a2, _⟩ := (show WF β (.agg _) from hw)
              exact ⟨a1, a2, hRv.recA hle 300 _ _⟩)
            (fun β hle hw => by
              obtain ⟨_, _, _, _, _, _, _, _, _, a1, a2, _⟩ := (show WF β (.agg _) from hw)
              exact ⟨a1, a2, hRv.recA hle 302 _ _⟩)
            (fun β hle => hRv.up hle) (fun β hle => hRv.down hle) (fun β hle => hRv.up hle) (fun β hle => hRv.down hle) ⟨fun _ => same_self R, fun _ => rfl⟩ rfl
      · exact rec_true hcl hR hRv f hf
    · exact rec_true hcl hS hSv f hf
  have hchk := lawAll b0 b1 b2 b3 (o1 := R.up) (o2 := R.down) (o3 := S.up) (o4 := S.down) e
  unfold chkLaw at hchk
  obtain ⟨g1, g2⟩ := item_conc (x := x) (val := val) (s := 200) (u := 70) (d := 71) (by decide) (by decide) hxv (by decide) (by decide) p70 p71
  obtain ⟨g3, g4⟩ := item_conc (x := y) (val := val) (s := 220) (u := 64) (d := 65) (by decide) (by decide) hyv (by decide) (by decide) p64 p65
  have := calls_of_chk (E := EnvT (lawF (cnt R.up) (cnt R.down) (cnt S.up) (cnt S.down) e) T) (fitT _ _) (by decide) sig_lt hf hcl hchk (show WFs (Bm val) [_, _] from ⟨g1, g3, trivial⟩) hT
  have ea : concs (Bm val) lawArgs = [.agg x.vals.toArray, .agg y.vals.toArray] := by
    unfold lawArgs
    rw [concs, concs, concs, g2, g4]
  replace this : Calls Tryz.prog 3 (concs (Bm val) lawArgs).toArray w _ := this
  rw [ea] at this
  exact this.mono fun e w2 hx => ⟨hx.1, hx.2.1⟩
end Go.AEv
