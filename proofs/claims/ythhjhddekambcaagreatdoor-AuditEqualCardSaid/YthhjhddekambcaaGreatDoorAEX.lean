/- Which records are equal: two records; the law. Conditions: none. -/
import Derived.Test.YthhjhddekambcaaGreatDoorAEM
namespace Go.AEv
open Go.Proofs
noncomputable section
/-! ### Two records -/
def eqRec (s b q n m : Nat) : AVal := .agg [.sym s, .sym (Nat.add s 1), .sym (Nat.add s 2), .sym (Nat.add s 3), .sym (Nat.add s 4), .sym (Nat.add s 5), .sym (Nat.add s 6), .sym (Nat.add s 7), .sym (Nat.add s 8), osl1b b q n, osl1b (Nat.add b 1) (Nat.add q 1) m, .sym (Nat.add s 9), .sym (Nat.add s 10), .sym (Nat.add s 11)]
def eqT (n m k l : Nat) : List (Nat × ABlk) := (row1 60 70 n ++ row1 61 71 m) ++ (row1 62 72 k ++ row1 63 73 l)
/-- field i: its shape, its symbol's number (the two lists: 9 and 10) -/
def eqFields : List (Nat × Nat × Nat) := [(0, 1, 0), (1, 1, 1), (2, 2, 2), (3, 1, 3), (4, 2, 4), (5, 2, 5), (6, 1, 6), (7, 3, 7), (8, 1, 8), (11, 2, 9), (12, 2, 10), (13, 3, 11)]
def eqOne (j : Nat) (x : Nat × Nat × Nat) : List Fact := ifB (Nat.ble x.1 j) [.eq x.2.1 (.sym (Nat.add 100 x.2.2)) (.sym (Nat.add 120 x.2.2)) (Nat.blt x.1 j)] []
def eqUp (j n k : Nat) : List Fact := ifB (Nat.ble 9 j) [.call 90 [osl1b 60 70 n, osl1b 62 72 k] (boolV (Nat.blt 9 j))] []
def eqDown (j m l : Nat) : List Fact := ifB (Nat.ble 10 j) [.call 90 [osl1b 61 71 m, osl1b 63 73 l] (boolV (Nat.blt 10 j))] []
def eqF (j n m k l : Nat) : List Fact := eqUp j n k ++ eqDown j m l ++ eqFields.flatMap (eqOne j)
def eqRun (j n m k l : Nat) : Bool := band (closedTabs (eqT n m k l)) (chkLit (EnvT (eqF j n m k l) (eqT n m k l)) F 16 [eqRec 100 60 70 n m, eqRec 120 62 72 k l] 300 (boolV (Nat.beq j 14)))
/-- two nil lists are equal: no such case -/
def eqSkip (j n m k l : Nat) : Bool := ifB (Nat.beq j 9) (Nat.beq (Nat.add n k) 0) (band (Nat.beq j 10) (Nat.beq (Nat.add m l) 0))
def chkEqs (n m k l : Nat) : Bool := allN (fun j => ifB (eqSkip j n m k l) true (eqRun j n m k l)) (List.range 15)
/-! ### The law -/
def awakeF : Fact := .call 4 [] (.bool true)
/-- an item: its scalars from s on, its slices -/
def itemA (s u d : Nat) : AVal := .agg [.sym s, .sym (Nat.add s 1), .sym (Nat.add s 2), .sym (Nat.add s 3), .sym (Nat.add s 4), .sym (Nat.add s 5), .sym (Nat.add s 6), .sym (Nat.add s 7), .sym (Nat.add s 8), .sym (Nat.add s 9), .sym (Nat.add s 10), .sym u, .sym d, .sym (Nat.add s 11)]
/-- a record: its scalars from s on (its version at v, its session at t), its lists in rows b and c -/
def recL (s v t b c n m : Nat) : List AVal := [.sym s, .sym v, .sym (Nat.add s 2), .sym t, .sym (Nat.add s 4), .sym (Nat.add s 5), .sym (Nat.add s 6), .sym (Nat.add s 7), .sym (Nat.add s 8), osl1b b (Nat.add s 12) n, osl1b c (Nat.add s 13) m, .sym (Nat.add s 9), .sym (Nat.add s 10), .sym (Nat.add s 11)]
def recA (s b n m : Nat) : AVal := .agg (recL s (Nat.add s 1) (Nat.add s 3) b (Nat.add b 1) n m)
def recP (s b n m : Nat) : AVal := .agg (recL s (Nat.add s 14) (Nat.add s 15) b (Nat.add b 1) n m)
def rowsR (s b n m : Nat) : List (Nat × ABlk) := row1 b (Nat.add s 12) n ++ row1 (Nat.add b 1) (Nat.add s 13) m
def fitLF (i u d s n m : Nat) : Fact := .make 5 [itemA i u d, i64c 1, .nilslice] 300 2 (rowsR s 300 n m) (recA s 300 n m)
def seg1 (b ai fi n : Nat) : List Seg := natC n [] fun _ => [⟨b, Nat.succ b, b, ai, fi, 0⟩]
def segsR (b ai n m : Nat) : List Seg := seg1 b ai 10 n ++ seg1 (Nat.add b 1) ai 11 m
def bytesLF (s n m : Nat) : Fact := .memoG 7 300 (segsR 300 0 n m) [recP s 300 n m] 302 (rowsR s 300 n m) ((302, .text 5 (.sym (Nat.add s 16))) :: rowsR s 300 n m) (.osl 302 (.sym (Nat.add s 16))) 303
def eqArgs (p q : AVal) : List AVal := [p, q]
def equalPF (s t n m k l : Nat) (e : Bool) : Fact := .memoG 16 300 (segsR 300 0 n m ++ segsR 302 1 k l) [recP s 300 n m, recP t 302 k l] 304 (rowsR s 300 n m ++ rowsR t 302 k l) (rowsR s 300 n m ++ rowsR t 302 k l) (boolV e) 304
def equalAF (s n m : Nat) : Fact := .memoG 16 300 (segsR 300 0 n m ++ segsR 302 1 n m) [recA s 300 n m, recA s 302 n m] 304 (rowsR s 300 n m ++ rowsR s 302 n m) (rowsR s 300 n m ++ rowsR s 302 n m) (.bool true) 304
def cloneF (q r n : Nat) : List Fact := natC n [] fun _ => [someF q, .len (.sym q) (.sym r), .bin .gtr (.sym r) (.int .i64 (.ofNat 100000000)) (.bool false)]
def recF (s n m : Nat) : List Fact :=
  [.max (.sym (Nat.add s 1)) (i64c 0) (.sym (Nat.add s 14)), .max (.sym (Nat.add s 3)) (i64c 0) (.sym (Nat.add s 15)), bytesLF s n m] ++ cloneF (Nat.add s 12) (Nat.add s 17) n ++ cloneF (Nat.add s 13) (Nat.add s 18) m
def lawF (n m k l : Nat) (e : Bool) : List Fact :=
  [awakeF, trailF, fitLF 200 70 71 100 n m, fitLF 220 64 65 120 k l, .read 6 [.osl 0 (.sym 116), .osl 0 (.sym 136)] (boolV e), equalPF 100 120 n m k l e, equalAF 100 n m] ++ recF 100 n m ++ recF 120 k l
def lawArgs : List AVal := [itemA 200 70 71, itemA 220 64 65]
def chkLaw (b0 b1 b2 b3 : ABlk) (n m k l : Nat) (e : Bool) : Bool := chkLit (EnvT (lawF n m k l e) (tabs ++ [(60, b0), (61, b1), (62, b2), (63, b3)])) F 3 lawArgs 300 (.bool true)
end
end Go.AEv
