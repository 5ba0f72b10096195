/- Changes, their encodings and texts: calls and runs (H0x0). Conditions: those of each theorem. -/
import Derived.Test.YtmlimgmmpjhifaaGreatDoorL0a
set_option maxHeartbeats 8000000
set_option maxRecDepth 100000
set_option linter.all false
namespace Go.AEv
section
open Go Go.Proofs TR
namespace MK
open Go.AEv.GT (zO)
theorem sz2 (x y:UInt8):(ByteArray.mk #[x,y]).size=2:=rfl
theorem sz4 (x y z u:UInt8):(ByteArray.mk #[x,y,z,u]).size=4:=rfl
theorem sz5 (x y z u v:UInt8):(ByteArray.mk #[x,y,z,u,v]).size=5:=rfl
theorem sz7 (x y z u v a b:UInt8):(ByteArray.mk #[x,y,z,u,v,a,b]).size=7:=rfl
abbrev cZ (rev:Bool) (adm tgt yes no:Int) (v:Value) (lg:Int):Value:=.agg #[.bool rev,.int .i64 adm,.int .i64 tgt,.int .u64 yes,.int .u64 no,v,.int .i64 lg]
theorem nB {w : World} {p : Option Addr} {l : List (Int × Int)} {n c : Nat} (h : Cs w p (l.flatMap kt)) (hn : l.length = n) (few : n ≤ 3) (ok : DOk l) {q : Option Addr} {m d : Nat} {ss : List ByteArray} (hs : Jb w q m ss)
    {adm tgt yes no lg : Int} (hl : 0 ≤ lg ∧ lg ≤ 30000) : Calls Tryz.prog 70 #[cZ true adm tgt yes no (.slice p n c) lg, .slice q m d] w (tC 1500 w) := by
  have H := Lib.hid h
  have F := Lib.hid few
  have N := Lib.hid hn
  have OK := Lib.hid ok
  have HS := Lib.hid hs
  have HL := Lib.hid hl
  clear h few hn ok hs hl
  unfold cZ
  have z1 := HS.out.size tgt
  have z2 := HS.out.size adm
  rcases Bool.eq_false_or_eq_true (kS ss adm).toList.isEmpty with e1 | e1
  · go_enter Tryz.func70, Tryz.ntmps70
    go_wp2_with (first
      | (go_at_call 117; (with_reducible refine (ke (HS.out.grown (za _ _))).mono ?_); rintro e w3 ⟨rfl, rfl⟩))
    go_ret
    exact ⟨_, rfl, by decide, za _ _⟩
  rcases Bool.eq_false_or_eq_true (kS ss tgt).toList.isEmpty with e2 | e2
  · go_enter Tryz.func70, Tryz.ntmps70
    go_wp2_with (first
      | (go_at_call 117; (with_reducible refine (ke (HS.out.grown (za _ _))).mono ?_); rintro e w3 ⟨rfl, rfl⟩))
    go_ret
    exact ⟨_, rfl, by decide, za _ _⟩
  go_enter Tryz.func70, Tryz.ntmps70
  go_wp2_with (first
    | (go_at_call 117; (with_reducible refine (ke (HS.out.grown (za _ _))).mono ?_); rintro e w3 ⟨rfl, rfl⟩))
  go_quiet (first | (go_at_call 117; exact Calls.quiet_of_same (ke (HS.out.grown ((za _ _).trans' (ql _ _))))))
  go_wp2
  go_loopg [5, 6, 7] 64 (fun g out word x wr => wr = ((w.alloc (Obj.cells #[.bool true, .int .i64 adm, .int .i64 tgt, .int .u64 yes, .int .u64 no, .slice p n c, .int .i64 lg] 141)).drewN nq) ∧ ∃ (j : Nat) (t u : ByteArray), j + g = 64 ∧ x = .int .i64 j ∧ out = .string t ∧ word = .string u ∧ t.size ≤ 40 + 21 * j ∧ u.size ≤ 5)
  case atStart => exact ⟨rfl, 0, _, _, by omega, rfl, rfl, rfl, by simp only [ByteArray.size_append, sz4, sz7]; omega, by decide⟩
  case round =>
    obtain ⟨rfl, j, t, u, hj, rfl, rfl, rfl, ht, hu⟩ := hrel
    have GW : RowKit.Hid (Grown w ((w.alloc (Obj.cells #[.bool true, .int .i64 adm, .int .i64 tgt, .int .u64 yes, .int .u64 no, .slice p n c, .int .i64 lg] 141)).drewN nq)) := Lib.hid ((za _ _).trans' (ql _ _))
    have hc : ∀ k v, (#[.bool true, .int .i64 adm, .int .i64 tgt, .int .u64 yes, .int .u64 no, .slice p n c, .int .i64 lg] : Array Value)[k]? = some v → ((w.alloc (Obj.cells #[.bool true, .int .i64 adm, .int .i64 tgt, .int .u64 yes, .int .u64 no, .slice p n c, .int .i64 lg] 141)).drewN nq).cell? ⟨w.heap.size, k, none⟩ = some v := fun k v e => by
      rw [World.cell?_drewN]
      unfold World.cell?
      rw [heap_alloc_new w _]
      exact e
    have b0 := hc 0 _ rfl
    have b5 := hc 5 _ rfl
    have b6 := hc 6 _ rfl
    clear hc
    have hlg := Zn 4 lg
    have tz : t.size ≤ 1384 := by omega
    have nz := HS.out.size (j : Int)
    clear ht
    by_cases hjm : (j : Int) < 64
    all_goals (
      go_wp2_with (first
          | (go_at_call 118; (with_reducible refine (JW (H.out.grown G3.out) N.out F.out OK.out).mono ?_); rintro e w4 ⟨s4, rfl, hs4, hg⟩; have d0 := RD.ze c0 hg; have d6 := RD.ze c6 hg; have G4 := Lib.hid (G3.out.trans' hg); clear hg)
          | (go_at_call 118; (with_reducible refine (JW (H.out.grown GW.out) N.out F.out OK.out).mono ?_); rintro e w3 ⟨s3, rfl, hs3, hg⟩; have c0 := RD.ze b0 hg; have c5 := RD.ze b5 hg; have c6 := RD.ze b6 hg; have G3 := Lib.hid (GW.out.trans' hg); clear hg)
          | (go_at_call 119; (with_reducible refine (Ju 4 HL.out.1 (by have := HL.out.2; omega) (by omega) (by have := HL.out.2; omega)).mono ?_); rintro e w5 ⟨rfl, m5, rfl⟩))
      all_goals (
          go_ret
          exact ⟨_, rfl, by simp only [ByteArray.size_append, sz2, sz4, sz5]; omega, by first | exact G4.out | exact G3.out | exact G4.out.trans' (ql _ _) | exact G3.out.trans' (ql _ _)⟩))
theorem gi {w : World} {p : Option Addr} {l : List (Int × Int)} {n c : Nat} (h : Cs w p (l.flatMap kt)) (hn : l.length = n) (few : n ≤ 3) (ok : DOk l) {q : Option Addr} {m d : Nat} {ss : List ByteArray} (hs : Jb w q m ss)
    {adm tgt yes no lg : Int} (hl : 0 ≤ lg ∧ lg ≤ 30000) : Calls Tryz.prog 70 #[cZ false adm tgt yes no (.slice p n c) lg, .slice q m d] w (tC 1500 w) := by
  have H := Lib.hid h
  have F := Lib.hid few
  have N := Lib.hid hn
  have OK := Lib.hid ok
  have HS := Lib.hid hs
  have HL := Lib.hid hl
  clear h few hn ok hs hl
  unfold cZ
  have z1 := HS.out.size tgt
  have z2 := HS.out.size adm
  rcases Bool.eq_false_or_eq_true (kS ss adm).toList.isEmpty with e1 | e1
  · go_enter Tryz.func70, Tryz.ntmps70
    go_wp2_with (first
      | (go_at_call 117; (with_reducible refine (ke (HS.out.grown (za _ _))).mono ?_); rintro e w3 ⟨rfl, rfl⟩))
    go_ret
    exact ⟨_, rfl, by decide, za _ _⟩
  rcases Bool.eq_false_or_eq_true (kS ss tgt).toList.isEmpty with e2 | e2
  · go_enter Tryz.func70, Tryz.ntmps70
    go_wp2_with (first
      | (go_at_call 117; (with_reducible refine (ke (HS.out.grown (za _ _))).mono ?_); rintro e w3 ⟨rfl, rfl⟩))
    go_ret
    exact ⟨_, rfl, by decide, za _ _⟩
  go_enter Tryz.func70, Tryz.ntmps70
  go_wp2_with (first
    | (go_at_call 117; (with_reducible refine (ke (HS.out.grown (za _ _))).mono ?_); rintro e w3 ⟨rfl, rfl⟩))
  go_quiet (first | (go_at_call 117; exact Calls.quiet_of_same (ke (HS.out.grown ((za _ _).trans' (ql _ _))))))
  go_wp2
  go_loopg [5, 6, 7] 64 (fun g out word x wr => wr = ((w.alloc (Obj.cells #[.bool false, .int .i64 adm, .int .i64 tgt, .int .u64 yes, .int .u64 no, .slice p n c, .int .i64 lg] 141)).drewN nq) ∧ ∃ (j : Nat) (t u : ByteArray), j + g = 64 ∧ x = .int .i64 j ∧ out = .string t ∧ word = .string u ∧ t.size ≤ 40 + 21 * j ∧ u.size ≤ 5)
  case atStart => exact ⟨rfl, 0, _, _, by omega, rfl, rfl, rfl, by simp only [ByteArray.size_append, sz4, sz7]; omega, by decide⟩
  case round =>
    obtain ⟨rfl, j, t, u, hj, rfl, rfl, rfl, ht, hu⟩ := hrel
    have GW : RowKit.Hid (Grown w ((w.alloc (Obj.cells #[.bool false, .int .i64 adm, .int .i64 tgt, .int .u64 yes, .int .u64 no, .slice p n c, .int .i64 lg] 141)).drewN nq)) := Lib.hid ((za _ _).trans' (ql _ _))
    have hc : ∀ k v, (#[.bool false, .int .i64 adm, .int .i64 tgt, .int .u64 yes, .int .u64 no, .slice p n c, .int .i64 lg] : Array Value)[k]? = some v → ((w.alloc (Obj.cells #[.bool false, .int .i64 adm, .int .i64 tgt, .int .u64 yes, .int .u64 no, .slice p n c, .int .i64 lg] 141)).drewN nq).cell? ⟨w.heap.size, k, none⟩ = some v := fun k v e => by
      rw [World.cell?_drewN]
      unfold World.cell?
      rw [heap_alloc_new w _]
      exact e
    have b0 := hc 0 _ rfl
    have b5 := hc 5 _ rfl
    have b6 := hc 6 _ rfl
    clear hc
    have hlg := Zn 4 lg
    have tz : t.size ≤ 1384 := by omega
    have nz := HS.out.size (j : Int)
    cases gk with
    | zero =>
      have hjm : ¬ ((j : Int) < 64) := by omega
      clear ht
      go_wp2_with (first
          | (go_at_call 118; (with_reducible refine (JW (H.out.grown G3.out) N.out F.out OK.out).mono ?_); rintro e w4 ⟨s4, rfl, hs4, hg⟩; have d0 := RD.ze c0 hg; have d6 := RD.ze c6 hg; have G4 := Lib.hid (G3.out.trans' hg); clear hg)
          | (go_at_call 118; (with_reducible refine (JW (H.out.grown GW.out) N.out F.out OK.out).mono ?_); rintro e w3 ⟨s3, rfl, hs3, hg⟩; have c0 := RD.ze b0 hg; have c5 := RD.ze b5 hg; have c6 := RD.ze b6 hg; have G3 := Lib.hid (GW.out.trans' hg); clear hg)
          | (go_at_call 119; (with_reducible refine (Ju 4 HL.out.1 (by have := HL.out.2; omega) (by omega) (by have := HL.out.2; omega)).mono ?_); rintro e w5 ⟨rfl, m5, rfl⟩))
      all_goals (
          go_ret
          exact ⟨_, rfl, by simp only [ByteArray.size_append, sz2, sz4, sz5]; omega, by first | exact G4.out | exact G3.out | exact G4.out.trans' (ql _ _) | exact G3.out.trans' (ql _ _)⟩)
    | succ g =>
      have hjm : (j : Int) < 64 := by omega
      have hw64 : RowKit.wrap64 ((j : Int) + 1) = (j : Int) + 1 := by unfold RowKit.wrap64; omega
      clear b0 b5 b6 tz
      go_wp2_with (first
        | (go_at_call 73; (with_reducible refine lL.mono ?_); rintro e w3 ⟨b3, rfl, rfl⟩; cases b3)
        | (go_at_call 117; (with_reducible refine (ke (HS.out.grown GW.out)).mono ?_); rintro e w3 ⟨rfl, rfl⟩))
      all_goals first
        | (go_ret
           exact ⟨_, rfl, by decide, GW.out⟩)
        | (go_roundg g
           case measure => omega
           case rel => exact ⟨rfl, j + 1, _, _, by omega, (by first | rfl | (rw [hw64]; rfl)), rfl, rfl, by (try simp only [ByteArray.size_append, sz4]); omega, by first | assumption | decide⟩)
theorem nC {w:World}{p:Option Addr}{l:List (Int×Int)}{n c:Nat} (h:Cs w p (l.flatMap kt)) (hn:l.length=n) (few:n≤3) (ok:DOk l) {q:Option Addr}{m d:Nat}{ss:List ByteArray} (hs:Jb w q m ss)
  {rev:Bool}{adm tgt yes no lg:Int} (hl:0≤lg∧lg≤30000):Calls Tryz.prog 70 #[cZ rev adm tgt yes no (.slice p n c) lg,.slice q m d] w (tC 1500 w):=by
 cases rev with
 | true=>exact nB h hn few ok hs hl
 | false=>exact gi h hn few ok hs hl
end MK
end
section
open Go Go.Proofs
namespace MK
theorem BV:ez=true:=by kernel_rfl
end MK
end
end Go.AEv
