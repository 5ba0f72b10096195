/- Which changes leave an assurance valid: the opening call out of its pieces, and the groups. Conditions: none. -/
import Derived.Test.YtnllgabplfojaaaGreatDoorAC0
namespace Go.AEv
open Go.Proofs
/-- what is known of the group: bits 1 to 7 -/
def bitsF (g : Nat) : List Fact := (List.range 7).flatMap fun i => [.bin .shr (.sym 60) (.int .u64 (.ofNat (i + 1))) (.sym (70 + i)), .bin .rem (.sym (70 + i)) (.int .u8 (.ofNat 2)) (.int .u8 (.ofNat (g / 2 ^ i % 2)))]
/-- of the change: who makes it -/
def actF (r : Nat) : List Fact := [.bin .rem (.sym 61) (.int .u8 (.ofNat 5)) (.int .u8 (.ofNat r)),
  .bin .rem (.sym 62) (.int .u8 (.ofNat 5)) (.sym 80), .conv .i64 (.sym 80) (.sym 81), .bin .add (.int .i64 (.ofNat 1)) (.sym 81) (.sym 82),
  .bin .rem (.sym 63) (.int .u8 (.ofNat 4)) (.sym 83), .conv .i64 (.sym 83) (.sym 84), .bin .add (.int .i64 (.ofNat 1)) (.sym 84) (.sym 85),
  .bin .rem (.sym 64) (.int .u8 (.ofNat 4)) (.sym 86), .conv .i64 (.sym 86) (.sym 87), .bin .add (.int .i64 (.ofNat 3)) (.sym 87) (.sym 88)]
/-- of the kind -/
def kindF (k : Nat) : List Fact := [.bin .rem (.sym 65) (.int .u8 (.ofNat 2)) (.int .u8 (.ofNat (k % 2))), .conv .u8 (.sym 65) (.sym 65), .eq 1 (.sym 65) (.int .u8 (.ofNat 12)) (k == 12), .eq 1 (.sym 65) (.int .u8 (.ofNat 13)) (k == 13)]
structure Grp where
  g : Nat
  n : Nat
  rows : List (Nat × ABlk)
  v : AVal
noncomputable def EG (g : Nat) : Env := mkEnv Tryz.prog specs (bitsF g) tabs
def grpFact (p : Grp) : Fact := .make 5 [.sym 60, .int .i64 (.ofNat 7)] 100 p.n p.rows p.v
noncomputable def chkGrp (p : Grp) : Bool := chkMake (EG p.g) 1000000 5 [.sym 60, .int .i64 (.ofNat 7)] 100 p.n p.rows p.v
def factsA (p : Grp) (r k : Nat) : List Fact := [factAwake, grpFact p] ++ actF r ++ kindF k
noncomputable def EA (p : Grp) (r k : Nat) : Env := mkEnv Tryz.prog specs (factsA p r k) tabs
def argsA (rv : Bool) : List AVal := [.sym 60, .agg [.sym 61, .sym 62, .sym 63, .sym 64, .bool rv], .sym 65]
noncomputable def chkA (p : Grp) (r k : Nat) (rv : Bool) : Bool := chkLit (EA p r k) 1000000 3 (argsA rv) 100 (.bool true)
noncomputable def chkP (p : Grp) : Bool := [0, 1, 2, 3, 4].all fun r => [12, 13, 0, 1].all fun k => chkA p r k true && chkA p r k false
def grps0 : List Grp := [
  ⟨0, 0, [], .nilslice⟩,
  ⟨1, 2, [(101, .cells 3 1 (.node .nil (some (.int .i64 (.ofNat 1))) .nil))], .slice 101 0 1 1 false⟩,
  ⟨2, 2, [(101, .cells 3 1 (.node .nil (some (.int .i64 (.ofNat 2))) .nil))], .slice 101 0 1 1 false⟩,
  ⟨3, 4, [(103, .cells 3 2 (.node (.node .nil (some (.int .i64 (.ofNat 2))) .nil) (some (.int .i64 (.ofNat 1))) .nil))], .slice 103 0 2 2 false⟩,
  ⟨4, 2, [(101, .cells 3 1 (.node .nil (some (.int .i64 (.ofNat 3))) .nil))], .slice 101 0 1 1 false⟩,
  ⟨5, 4, [(103, .cells 3 2 (.node (.node .nil (some (.int .i64 (.ofNat 3))) .nil) (some (.int .i64 (.ofNat 1))) .nil))], .slice 103 0 2 2 false⟩,
  ⟨6, 4, [(103, .cells 3 2 (.node (.node .nil (some (.int .i64 (.ofNat 3))) .nil) (some (.int .i64 (.ofNat 2))) .nil))], .slice 103 0 2 2 false⟩,
  ⟨7, 6, [(105, .cells 3 3 (.node (.node .nil (some (.int .i64 (.ofNat 2))) .nil) (some (.int .i64 (.ofNat 1))) (.node .nil (some (.int .i64 (.ofNat 3))) .nil)))], .slice 105 0 3 3 false⟩]
def grps1 : List Grp := [
  ⟨8, 2, [(101, .cells 3 1 (.node .nil (some (.int .i64 (.ofNat 4))) .nil))], .slice 101 0 1 1 false⟩,
  ⟨9, 4, [(103, .cells 3 2 (.node (.node .nil (some (.int .i64 (.ofNat 4))) .nil) (some (.int .i64 (.ofNat 1))) .nil))], .slice 103 0 2 2 false⟩,
  ⟨10, 4, [(103, .cells 3 2 (.node (.node .nil (some (.int .i64 (.ofNat 4))) .nil) (some (.int .i64 (.ofNat 2))) .nil))], .slice 103 0 2 2 false⟩,
  ⟨11, 6, [(105, .cells 3 3 (.node (.node .nil (some (.int .i64 (.ofNat 2))) .nil) (some (.int .i64 (.ofNat 1))) (.node .nil (some (.int .i64 (.ofNat 4))) .nil)))], .slice 105 0 3 3 false⟩,
  ⟨12, 4, [(103, .cells 3 2 (.node (.node .nil (some (.int .i64 (.ofNat 4))) .nil) (some (.int .i64 (.ofNat 3))) .nil))], .slice 103 0 2 2 false⟩,
  ⟨13, 6, [(105, .cells 3 3 (.node (.node .nil (some (.int .i64 (.ofNat 3))) .nil) (some (.int .i64 (.ofNat 1))) (.node .nil (some (.int .i64 (.ofNat 4))) .nil)))], .slice 105 0 3 3 false⟩,
  ⟨14, 6, [(105, .cells 3 3 (.node (.node .nil (some (.int .i64 (.ofNat 3))) .nil) (some (.int .i64 (.ofNat 2))) (.node .nil (some (.int .i64 (.ofNat 4))) .nil)))], .slice 105 0 3 3 false⟩,
  ⟨15, 8, [(107, .cells 3 4 (.node (.node (.node .nil (some (.int .i64 (.ofNat 4))) .nil) (some (.int .i64 (.ofNat 2))) .nil) (some (.int .i64 (.ofNat 1))) (.node .nil (some (.int .i64 (.ofNat 3))) .nil)))], .slice 107 0 4 4 false⟩]
def grps2 : List Grp := [
  ⟨16, 2, [(101, .cells 3 1 (.node .nil (some (.int .i64 (.ofNat 5))) .nil))], .slice 101 0 1 1 false⟩,
  ⟨17, 4, [(103, .cells 3 2 (.node (.node .nil (some (.int .i64 (.ofNat 5))) .nil) (some (.int .i64 (.ofNat 1))) .nil))], .slice 103 0 2 2 false⟩,
  ⟨18, 4, [(103, .cells 3 2 (.node (.node .nil (some (.int .i64 (.ofNat 5))) .nil) (some (.int .i64 (.ofNat 2))) .nil))], .slice 103 0 2 2 false⟩,
  ⟨19, 6, [(105, .cells 3 3 (.node (.node .nil (some (.int .i64 (.ofNat 2))) .nil) (some (.int .i64 (.ofNat 1))) (.node .nil (some (.int .i64 (.ofNat 5))) .nil)))], .slice 105 0 3 3 false⟩,
  ⟨20, 4, [(103, .cells 3 2 (.node (.node .nil (some (.int .i64 (.ofNat 5))) .nil) (some (.int .i64 (.ofNat 3))) .nil))], .slice 103 0 2 2 false⟩,
  ⟨21, 6, [(105, .cells 3 3 (.node (.node .nil (some (.int .i64 (.ofNat 3))) .nil) (some (.int .i64 (.ofNat 1))) (.node .nil (some (.int .i64 (.ofNat 5))) .nil)))], .slice 105 0 3 3 false⟩,
  ⟨22, 6, [(105, .cells 3 3 (.node (.node .nil (some (.int .i64 (.ofNat 3))) .nil) (some (.int .i64 (.ofNat 2))) (.node .nil (some (.int .i64 (.ofNat 5))) .nil)))], .slice 105 0 3 3 false⟩,
  ⟨23, 8, [(107, .cells 3 4 (.node (.node (.node .nil (some (.int .i64 (.ofNat 5))) .nil) (some (.int .i64 (.ofNat 2))) .nil) (some (.int .i64 (.ofNat 1))) (.node .nil (some (.int .i64 (.ofNat 3))) .nil)))], .slice 107 0 4 4 false⟩]
def grps3 : List Grp := [
  ⟨24, 4, [(103, .cells 3 2 (.node (.node .nil (some (.int .i64 (.ofNat 5))) .nil) (some (.int .i64 (.ofNat 4))) .nil))], .slice 103 0 2 2 false⟩,
  ⟨25, 6, [(105, .cells 3 3 (.node (.node .nil (some (.int .i64 (.ofNat 4))) .nil) (some (.int .i64 (.ofNat 1))) (.node .nil (some (.int .i64 (.ofNat 5))) .nil)))], .slice 105 0 3 3 false⟩,
  ⟨26, 6, [(105, .cells 3 3 (.node (.node .nil (some (.int .i64 (.ofNat 4))) .nil) (some (.int .i64 (.ofNat 2))) (.node .nil (some (.int .i64 (.ofNat 5))) .nil)))], .slice 105 0 3 3 false⟩,
  ⟨27, 8, [(107, .cells 3 4 (.node (.node (.node .nil (some (.int .i64 (.ofNat 5))) .nil) (some (.int .i64 (.ofNat 2))) .nil) (some (.int .i64 (.ofNat 1))) (.node .nil (some (.int .i64 (.ofNat 4))) .nil)))], .slice 107 0 4 4 false⟩,
  ⟨28, 6, [(105, .cells 3 3 (.node (.node .nil (some (.int .i64 (.ofNat 4))) .nil) (some (.int .i64 (.ofNat 3))) (.node .nil (some (.int .i64 (.ofNat 5))) .nil)))], .slice 105 0 3 3 false⟩,
  ⟨29, 8, [(107, .cells 3 4 (.node (.node (.node .nil (some (.int .i64 (.ofNat 5))) .nil) (some (.int .i64 (.ofNat 3))) .nil) (some (.int .i64 (.ofNat 1))) (.node .nil (some (.int .i64 (.ofNat 4))) .nil)))], .slice 107 0 4 4 false⟩,
  ⟨30, 8, [(107, .cells 3 4 (.node (.node (.node .nil (some (.int .i64 (.ofNat 5))) .nil) (some (.int .i64 (.ofNat 3))) .nil) (some (.int .i64 (.ofNat 2))) (.node .nil (some (.int .i64 (.ofNat 4))) .nil)))], .slice 107 0 4 4 false⟩,
  ⟨31, 10, [(109, .cells 3 5 (.node (.node (.node .nil (some (.int .i64 (.ofNat 4))) .nil) (some (.int .i64 (.ofNat 2))) .nil) (some (.int .i64 (.ofNat 1))) (.node (.node .nil (some (.int .i64 (.ofNat 5))) .nil) (some (.int .i64 (.ofNat 3))) .nil)))], .slice 109 0 5 5 false⟩]
def grps4 : List Grp := [
  ⟨32, 2, [(101, .cells 3 1 (.node .nil (some (.int .i64 (.ofNat 6))) .nil))], .slice 101 0 1 1 false⟩,
  ⟨33, 4, [(103, .cells 3 2 (.node (.node .nil (some (.int .i64 (.ofNat 6))) .nil) (some (.int .i64 (.ofNat 1))) .nil))], .slice 103 0 2 2 false⟩,
  ⟨34, 4, [(103, .cells 3 2 (.node (.node .nil (some (.int .i64 (.ofNat 6))) .nil) (some (.int .i64 (.ofNat 2))) .nil))], .slice 103 0 2 2 false⟩,
  ⟨35, 6, [(105, .cells 3 3 (.node (.node .nil (some (.int .i64 (.ofNat 2))) .nil) (some (.int .i64 (.ofNat 1))) (.node .nil (some (.int .i64 (.ofNat 6))) .nil)))], .slice 105 0 3 3 false⟩,
  ⟨36, 4, [(103, .cells 3 2 (.node (.node .nil (some (.int .i64 (.ofNat 6))) .nil) (some (.int .i64 (.ofNat 3))) .nil))], .slice 103 0 2 2 false⟩,
  ⟨37, 6, [(105, .cells 3 3 (.node (.node .nil (some (.int .i64 (.ofNat 3))) .nil) (some (.int .i64 (.ofNat 1))) (.node .nil (some (.int .i64 (.ofNat 6))) .nil)))], .slice 105 0 3 3 false⟩,
  ⟨38, 6, [(105, .cells 3 3 (.node (.node .nil (some (.int .i64 (.ofNat 3))) .nil) (some (.int .i64 (.ofNat 2))) (.node .nil (some (.int .i64 (.ofNat 6))) .nil)))], .slice 105 0 3 3 false⟩,
  ⟨39, 8, [(107, .cells 3 4 (.node (.node (.node .nil (some (.int .i64 (.ofNat 6))) .nil) (some (.int .i64 (.ofNat 2))) .nil) (some (.int .i64 (.ofNat 1))) (.node .nil (some (.int .i64 (.ofNat 3))) .nil)))], .slice 107 0 4 4 false⟩]
def grps5 : List Grp := [
  ⟨40, 4, [(103, .cells 3 2 (.node (.node .nil (some (.int .i64 (.ofNat 6))) .nil) (some (.int .i64 (.ofNat 4))) .nil))], .slice 103 0 2 2 false⟩,
  ⟨41, 6, [(105, .cells 3 3 (.node (.node .nil (some (.int .i64 (.ofNat 4))) .nil) (some (.int .i64 (.ofNat 1))) (.node .nil (some (.int .i64 (.ofNat 6))) .nil)))], .slice 105 0 3 3 false⟩,
  ⟨42, 6, [(105, .cells 3 3 (.node (.node .nil (some (.int .i64 (.ofNat 4))) .nil) (some (.int .i64 (.ofNat 2))) (.node .nil (some (.int .i64 (.ofNat 6))) .nil)))], .slice 105 0 3 3 false⟩,
  ⟨43, 8, [(107, .cells 3 4 (.node (.node (.node .nil (some (.int .i64 (.ofNat 6))) .nil) (some (.int .i64 (.ofNat 2))) .nil) (some (.int .i64 (.ofNat 1))) (.node .nil (some (.int .i64 (.ofNat 4))) .nil)))], .slice 107 0 4 4 false⟩,
  ⟨44, 6, [(105, .cells 3 3 (.node (.node .nil (some (.int .i64 (.ofNat 4))) .nil) (some (.int .i64 (.ofNat 3))) (.node .nil (some (.int .i64 (.ofNat 6))) .nil)))], .slice 105 0 3 3 false⟩,
  ⟨45, 8, [(107, .cells 3 4 (.node (.node (.node .nil (some (.int .i64 (.ofNat 6))) .nil) (some (.int .i64 (.ofNat 3))) .nil) (some (.int .i64 (.ofNat 1))) (.node .nil (some (.int .i64 (.ofNat 4))) .nil)))], .slice 107 0 4 4 false⟩,
  ⟨46, 8, [(107, .cells 3 4 (.node (.node (.node .nil (some (.int .i64 (.ofNat 6))) .nil) (some (.int .i64 (.ofNat 3))) .nil) (some (.int .i64 (.ofNat 2))) (.node .nil (some (.int .i64 (.ofNat 4))) .nil)))], .slice 107 0 4 4 false⟩,
  ⟨47, 10, [(109, .cells 3 5 (.node (.node (.node .nil (some (.int .i64 (.ofNat 4))) .nil) (some (.int .i64 (.ofNat 2))) .nil) (some (.int .i64 (.ofNat 1))) (.node (.node .nil (some (.int .i64 (.ofNat 6))) .nil) (some (.int .i64 (.ofNat 3))) .nil)))], .slice 109 0 5 5 false⟩]
def grps6 : List Grp := [
  ⟨48, 4, [(103, .cells 3 2 (.node (.node .nil (some (.int .i64 (.ofNat 6))) .nil) (some (.int .i64 (.ofNat 5))) .nil))], .slice 103 0 2 2 false⟩,
  ⟨49, 6, [(105, .cells 3 3 (.node (.node .nil (some (.int .i64 (.ofNat 5))) .nil) (some (.int .i64 (.ofNat 1))) (.node .nil (some (.int .i64 (.ofNat 6))) .nil)))], .slice 105 0 3 3 false⟩,
  ⟨50, 6, [(105, .cells 3 3 (.node (.node .nil (some (.int .i64 (.ofNat 5))) .nil) (some (.int .i64 (.ofNat 2))) (.node .nil (some (.int .i64 (.ofNat 6))) .nil)))], .slice 105 0 3 3 false⟩,
  ⟨51, 8, [(107, .cells 3 4 (.node (.node (.node .nil (some (.int .i64 (.ofNat 6))) .nil) (some (.int .i64 (.ofNat 2))) .nil) (some (.int .i64 (.ofNat 1))) (.node .nil (some (.int .i64 (.ofNat 5))) .nil)))], .slice 107 0 4 4 false⟩,
  ⟨52, 6, [(105, .cells 3 3 (.node (.node .nil (some (.int .i64 (.ofNat 5))) .nil) (some (.int .i64 (.ofNat 3))) (.node .nil (some (.int .i64 (.ofNat 6))) .nil)))], .slice 105 0 3 3 false⟩,
  ⟨53, 8, [(107, .cells 3 4 (.node (.node (.node .nil (some (.int .i64 (.ofNat 6))) .nil) (some (.int .i64 (.ofNat 3))) .nil) (some (.int .i64 (.ofNat 1))) (.node .nil (some (.int .i64 (.ofNat 5))) .nil)))], .slice 107 0 4 4 false⟩,
  ⟨54, 8, [(107, .cells 3 4 (.node (.node (.node .nil (some (.int .i64 (.ofNat 6))) .nil) (some (.int .i64 (.ofNat 3))) .nil) (some (.int .i64 (.ofNat 2))) (.node .nil (some (.int .i64 (.ofNat 5))) .nil)))], .slice 107 0 4 4 false⟩,
  ⟨55, 10, [(109, .cells 3 5 (.node (.node (.node .nil (some (.int .i64 (.ofNat 5))) .nil) (some (.int .i64 (.ofNat 2))) .nil) (some (.int .i64 (.ofNat 1))) (.node (.node .nil (some (.int .i64 (.ofNat 6))) .nil) (some (.int .i64 (.ofNat 3))) .nil)))], .slice 109 0 5 5 false⟩]
def grps7 : List Grp := [
  ⟨56, 6, [(105, .cells 3 3 (.node (.node .nil (some (.int .i64 (.ofNat 5))) .nil) (some (.int .i64 (.ofNat 4))) (.node .nil (some (.int .i64 (.ofNat 6))) .nil)))], .slice 105 0 3 3 false⟩,
  ⟨57, 8, [(107, .cells 3 4 (.node (.node (.node .nil (some (.int .i64 (.ofNat 6))) .nil) (some (.int .i64 (.ofNat 4))) .nil) (some (.int .i64 (.ofNat 1))) (.node .nil (some (.int .i64 (.ofNat 5))) .nil)))], .slice 107 0 4 4 false⟩,
  ⟨58, 8, [(107, .cells 3 4 (.node (.node (.node .nil (some (.int .i64 (.ofNat 6))) .nil) (some (.int .i64 (.ofNat 4))) .nil) (some (.int .i64 (.ofNat 2))) (.node .nil (some (.int .i64 (.ofNat 5))) .nil)))], .slice 107 0 4 4 false⟩,
  ⟨59, 10, [(109, .cells 3 5 (.node (.node (.node .nil (some (.int .i64 (.ofNat 5))) .nil) (some (.int .i64 (.ofNat 2))) .nil) (some (.int .i64 (.ofNat 1))) (.node (.node .nil (some (.int .i64 (.ofNat 6))) .nil) (some (.int .i64 (.ofNat 4))) .nil)))], .slice 109 0 5 5 false⟩,
  ⟨60, 8, [(107, .cells 3 4 (.node (.node (.node .nil (some (.int .i64 (.ofNat 6))) .nil) (some (.int .i64 (.ofNat 4))) .nil) (some (.int .i64 (.ofNat 3))) (.node .nil (some (.int .i64 (.ofNat 5))) .nil)))], .slice 107 0 4 4 false⟩,
  ⟨61, 10, [(109, .cells 3 5 (.node (.node (.node .nil (some (.int .i64 (.ofNat 5))) .nil) (some (.int .i64 (.ofNat 3))) .nil) (some (.int .i64 (.ofNat 1))) (.node (.node .nil (some (.int .i64 (.ofNat 6))) .nil) (some (.int .i64 (.ofNat 4))) .nil)))], .slice 109 0 5 5 false⟩,
  ⟨62, 10, [(109, .cells 3 5 (.node (.node (.node .nil (some (.int .i64 (.ofNat 5))) .nil) (some (.int .i64 (.ofNat 3))) .nil) (some (.int .i64 (.ofNat 2))) (.node (.node .nil (some (.int .i64 (.ofNat 6))) .nil) (some (.int .i64 (.ofNat 4))) .nil)))], .slice 109 0 5 5 false⟩,
  ⟨63, 12, [(111, .cells 3 6 (.node (.node (.node .nil (some (.int .i64 (.ofNat 4))) .nil) (some (.int .i64 (.ofNat 2))) (.node .nil (some (.int .i64 (.ofNat 6))) .nil)) (some (.int .i64 (.ofNat 1))) (.node (.node .nil (some (.int .i64 (.ofNat 5))) .nil) (some (.int .i64 (.ofNat 3))) .nil)))], .slice 111 0 6 6 false⟩]
def grps8 : List Grp := [
  ⟨64, 2, [(101, .cells 3 1 (.node .nil (some (.int .i64 (.ofNat 7))) .nil))], .slice 101 0 1 1 false⟩,
  ⟨65, 4, [(103, .cells 3 2 (.node (.node .nil (some (.int .i64 (.ofNat 7))) .nil) (some (.int .i64 (.ofNat 1))) .nil))], .slice 103 0 2 2 false⟩,
  ⟨66, 4, [(103, .cells 3 2 (.node (.node .nil (some (.int .i64 (.ofNat 7))) .nil) (some (.int .i64 (.ofNat 2))) .nil))], .slice 103 0 2 2 false⟩,
  ⟨67, 6, [(105, .cells 3 3 (.node (.node .nil (some (.int .i64 (.ofNat 2))) .nil) (some (.int .i64 (.ofNat 1))) (.node .nil (some (.int .i64 (.ofNat 7))) .nil)))], .slice 105 0 3 3 false⟩,
  ⟨68, 4, [(103, .cells 3 2 (.node (.node .nil (some (.int .i64 (.ofNat 7))) .nil) (some (.int .i64 (.ofNat 3))) .nil))], .slice 103 0 2 2 false⟩,
  ⟨69, 6, [(105, .cells 3 3 (.node (.node .nil (some (.int .i64 (.ofNat 3))) .nil) (some (.int .i64 (.ofNat 1))) (.node .nil (some (.int .i64 (.ofNat 7))) .nil)))], .slice 105 0 3 3 false⟩,
  ⟨70, 6, [(105, .cells 3 3 (.node (.node .nil (some (.int .i64 (.ofNat 3))) .nil) (some (.int .i64 (.ofNat 2))) (.node .nil (some (.int .i64 (.ofNat 7))) .nil)))], .slice 105 0 3 3 false⟩,
  ⟨71, 8, [(107, .cells 3 4 (.node (.node (.node .nil (some (.int .i64 (.ofNat 7))) .nil) (some (.int .i64 (.ofNat 2))) .nil) (some (.int .i64 (.ofNat 1))) (.node .nil (some (.int .i64 (.ofNat 3))) .nil)))], .slice 107 0 4 4 false⟩]
def grps9 : List Grp := [
  ⟨72, 4, [(103, .cells 3 2 (.node (.node .nil (some (.int .i64 (.ofNat 7))) .nil) (some (.int .i64 (.ofNat 4))) .nil))], .slice 103 0 2 2 false⟩,
  ⟨73, 6, [(105, .cells 3 3 (.node (.node .nil (some (.int .i64 (.ofNat 4))) .nil) (some (.int .i64 (.ofNat 1))) (.node .nil (some (.int .i64 (.ofNat 7))) .nil)))], .slice 105 0 3 3 false⟩,
  ⟨74, 6, [(105, .cells 3 3 (.node (.node .nil (some (.int .i64 (.ofNat 4))) .nil) (some (.int .i64 (.ofNat 2))) (.node .nil (some (.int .i64 (.ofNat 7))) .nil)))], .slice 105 0 3 3 false⟩,
  ⟨75, 8, [(107, .cells 3 4 (.node (.node (.node .nil (some (.int .i64 (.ofNat 7))) .nil) (some (.int .i64 (.ofNat 2))) .nil) (some (.int .i64 (.ofNat 1))) (.node .nil (some (.int .i64 (.ofNat 4))) .nil)))], .slice 107 0 4 4 false⟩,
  ⟨76, 6, [(105, .cells 3 3 (.node (.node .nil (some (.int .i64 (.ofNat 4))) .nil) (some (.int .i64 (.ofNat 3))) (.node .nil (some (.int .i64 (.ofNat 7))) .nil)))], .slice 105 0 3 3 false⟩,
  ⟨77, 8, [(107, .cells 3 4 (.node (.node (.node .nil (some (.int .i64 (.ofNat 7))) .nil) (some (.int .i64 (.ofNat 3))) .nil) (some (.int .i64 (.ofNat 1))) (.node .nil (some (.int .i64 (.ofNat 4))) .nil)))], .slice 107 0 4 4 false⟩,
  ⟨78, 8, [(107, .cells 3 4 (.node (.node (.node .nil (some (.int .i64 (.ofNat 7))) .nil) (some (.int .i64 (.ofNat 3))) .nil) (some (.int .i64 (.ofNat 2))) (.node .nil (some (.int .i64 (.ofNat 4))) .nil)))], .slice 107 0 4 4 false⟩,
  ⟨79, 10, [(109, .cells 3 5 (.node (.node (.node .nil (some (.int .i64 (.ofNat 4))) .nil) (some (.int .i64 (.ofNat 2))) .nil) (some (.int .i64 (.ofNat 1))) (.node (.node .nil (some (.int .i64 (.ofNat 7))) .nil) (some (.int .i64 (.ofNat 3))) .nil)))], .slice 109 0 5 5 false⟩]
def grps10 : List Grp := [
  ⟨80, 4, [(103, .cells 3 2 (.node (.node .nil (some (.int .i64 (.ofNat 7))) .nil) (some (.int .i64 (.ofNat 5))) .nil))], .slice 103 0 2 2 false⟩,
  ⟨81, 6, [(105, .cells 3 3 (.node (.node .nil (some (.int .i64 (.ofNat 5))) .nil) (some (.int .i64 (.ofNat 1))) (.node .nil (some (.int .i64 (.ofNat 7))) .nil)))], .slice 105 0 3 3 false⟩,
  ⟨82, 6, [(105, .cells 3 3 (.node (.node .nil (some (.int .i64 (.ofNat 5))) .nil) (some (.int .i64 (.ofNat 2))) (.node .nil (some (.int .i64 (.ofNat 7))) .nil)))], .slice 105 0 3 3 false⟩,
  ⟨83, 8, [(107, .cells 3 4 (.node (.node (.node .nil (some (.int .i64 (.ofNat 7))) .nil) (some (.int .i64 (.ofNat 2))) .nil) (some (.int .i64 (.ofNat 1))) (.node .nil (some (.int .i64 (.ofNat 5))) .nil)))], .slice 107 0 4 4 false⟩,
  ⟨84, 6, [(105, .cells 3 3 (.node (.node .nil (some (.int .i64 (.ofNat 5))) .nil) (some (.int .i64 (.ofNat 3))) (.node .nil (some (.int .i64 (.ofNat 7))) .nil)))], .slice 105 0 3 3 false⟩,
  ⟨85, 8, [(107, .cells 3 4 (.node (.node (.node .nil (some (.int .i64 (.ofNat 7))) .nil) (some (.int .i64 (.ofNat 3))) .nil) (some (.int .i64 (.ofNat 1))) (.node .nil (some (.int .i64 (.ofNat 5))) .nil)))], .slice 107 0 4 4 false⟩,
  ⟨86, 8, [(107, .cells 3 4 (.node (.node (.node .nil (some (.int .i64 (.ofNat 7))) .nil) (some (.int .i64 (.ofNat 3))) .nil) (some (.int .i64 (.ofNat 2))) (.node .nil (some (.int .i64 (.ofNat 5))) .nil)))], .slice 107 0 4 4 false⟩,
  ⟨87, 10, [(109, .cells 3 5 (.node (.node (.node .nil (some (.int .i64 (.ofNat 5))) .nil) (some (.int .i64 (.ofNat 2))) .nil) (some (.int .i64 (.ofNat 1))) (.node (.node .nil (some (.int .i64 (.ofNat 7))) .nil) (some (.int .i64 (.ofNat 3))) .nil)))], .slice 109 0 5 5 false⟩]
def grps11 : List Grp := [
  ⟨88, 6, [(105, .cells 3 3 (.node (.node .nil (some (.int .i64 (.ofNat 5))) .nil) (some (.int .i64 (.ofNat 4))) (.node .nil (some (.int .i64 (.ofNat 7))) .nil)))], .slice 105 0 3 3 false⟩,
  ⟨89, 8, [(107, .cells 3 4 (.node (.node (.node .nil (some (.int .i64 (.ofNat 7))) .nil) (some (.int .i64 (.ofNat 4))) .nil) (some (.int .i64 (.ofNat 1))) (.node .nil (some (.int .i64 (.ofNat 5))) .nil)))], .slice 107 0 4 4 false⟩,
  ⟨90, 8, [(107, .cells 3 4 (.node (.node (.node .nil (some (.int .i64 (.ofNat 7))) .nil) (some (.int .i64 (.ofNat 4))) .nil) (some (.int .i64 (.ofNat 2))) (.node .nil (some (.int .i64 (.ofNat 5))) .nil)))], .slice 107 0 4 4 false⟩,
  ⟨91, 10, [(109, .cells 3 5 (.node (.node (.node .nil (some (.int .i64 (.ofNat 5))) .nil) (some (.int .i64 (.ofNat 2))) .nil) (some (.int .i64 (.ofNat 1))) (.node (.node .nil (some (.int .i64 (.ofNat 7))) .nil) (some (.int .i64 (.ofNat 4))) .nil)))], .slice 109 0 5 5 false⟩,
  ⟨92, 8, [(107, .cells 3 4 (.node (.node (.node .nil (some (.int .i64 (.ofNat 7))) .nil) (some (.int .i64 (.ofNat 4))) .nil) (some (.int .i64 (.ofNat 3))) (.node .nil (some (.int .i64 (.ofNat 5))) .nil)))], .slice 107 0 4 4 false⟩,
  ⟨93, 10, [(109, .cells 3 5 (.node (.node (.node .nil (some (.int .i64 (.ofNat 5))) .nil) (some (.int .i64 (.ofNat 3))) .nil) (some (.int .i64 (.ofNat 1))) (.node (.node .nil (some (.int .i64 (.ofNat 7))) .nil) (some (.int .i64 (.ofNat 4))) .nil)))], .slice 109 0 5 5 false⟩,
  ⟨94, 10, [(109, .cells 3 5 (.node (.node (.node .nil (some (.int .i64 (.ofNat 5))) .nil) (some (.int .i64 (.ofNat 3))) .nil) (some (.int .i64 (.ofNat 2))) (.node (.node .nil (some (.int .i64 (.ofNat 7))) .nil) (some (.int .i64 (.ofNat 4))) .nil)))], .slice 109 0 5 5 false⟩,
  ⟨95, 12, [(111, .cells 3 6 (.node (.node (.node .nil (some (.int .i64 (.ofNat 4))) .nil) (some (.int .i64 (.ofNat 2))) (.node .nil (some (.int .i64 (.ofNat 7))) .nil)) (some (.int .i64 (.ofNat 1))) (.node (.node .nil (some (.int .i64 (.ofNat 5))) .nil) (some (.int .i64 (.ofNat 3))) .nil)))], .slice 111 0 6 6 false⟩]
def grps12 : List Grp := [
  ⟨96, 4, [(103, .cells 3 2 (.node (.node .nil (some (.int .i64 (.ofNat 7))) .nil) (some (.int .i64 (.ofNat 6))) .nil))], .slice 103 0 2 2 false⟩,
  ⟨97, 6, [(105, .cells 3 3 (.node (.node .nil (some (.int .i64 (.ofNat 6))) .nil) (some (.int .i64 (.ofNat 1))) (.node .nil (some (.int .i64 (.ofNat 7))) .nil)))], .slice 105 0 3 3 false⟩,
  ⟨98, 6, [(105, .cells 3 3 (.node (.node .nil (some (.int .i64 (.ofNat 6))) .nil) (some (.int .i64 (.ofNat 2))) (.node .nil (some (.int .i64 (.ofNat 7))) .nil)))], .slice 105 0 3 3 false⟩,
  ⟨99, 8, [(107, .cells 3 4 (.node (.node (.node .nil (some (.int .i64 (.ofNat 7))) .nil) (some (.int .i64 (.ofNat 2))) .nil) (some (.int .i64 (.ofNat 1))) (.node .nil (some (.int .i64 (.ofNat 6))) .nil)))], .slice 107 0 4 4 false⟩,
  ⟨100, 6, [(105, .cells 3 3 (.node (.node .nil (some (.int .i64 (.ofNat 6))) .nil) (some (.int .i64 (.ofNat 3))) (.node .nil (some (.int .i64 (.ofNat 7))) .nil)))], .slice 105 0 3 3 false⟩,
  ⟨101, 8, [(107, .cells 3 4 (.node (.node (.node .nil (some (.int .i64 (.ofNat 7))) .nil) (some (.int .i64 (.ofNat 3))) .nil) (some (.int .i64 (.ofNat 1))) (.node .nil (some (.int .i64 (.ofNat 6))) .nil)))], .slice 107 0 4 4 false⟩,
  ⟨102, 8, [(107, .cells 3 4 (.node (.node (.node .nil (some (.int .i64 (.ofNat 7))) .nil) (some (.int .i64 (.ofNat 3))) .nil) (some (.int .i64 (.ofNat 2))) (.node .nil (some (.int .i64 (.ofNat 6))) .nil)))], .slice 107 0 4 4 false⟩,
  ⟨103, 10, [(109, .cells 3 5 (.node (.node (.node .nil (some (.int .i64 (.ofNat 6))) .nil) (some (.int .i64 (.ofNat 2))) .nil) (some (.int .i64 (.ofNat 1))) (.node (.node .nil (some (.int .i64 (.ofNat 7))) .nil) (some (.int .i64 (.ofNat 3))) .nil)))], .slice 109 0 5 5 false⟩]
def grps13 : List Grp := [
  ⟨104, 6, [(105, .cells 3 3 (.node (.node .nil (some (.int .i64 (.ofNat 6))) .nil) (some (.int .i64 (.ofNat 4))) (.node .nil (some (.int .i64 (.ofNat 7))) .nil)))], .slice 105 0 3 3 false⟩,
  ⟨105, 8, [(107, .cells 3 4 (.node (.node (.node .nil (some (.int .i64 (.ofNat 7))) .nil) (some (.int .i64 (.ofNat 4))) .nil) (some (.int .i64 (.ofNat 1))) (.node .nil (some (.int .i64 (.ofNat 6))) .nil)))], .slice 107 0 4 4 false⟩,
  ⟨106, 8, [(107, .cells 3 4 (.node (.node (.node .nil (some (.int .i64 (.ofNat 7))) .nil) (some (.int .i64 (.ofNat 4))) .nil) (some (.int .i64 (.ofNat 2))) (.node .nil (some (.int .i64 (.ofNat 6))) .nil)))], .slice 107 0 4 4 false⟩,
  ⟨107, 10, [(109, .cells 3 5 (.node (.node (.node .nil (some (.int .i64 (.ofNat 6))) .nil) (some (.int .i64 (.ofNat 2))) .nil) (some (.int .i64 (.ofNat 1))) (.node (.node .nil (some (.int .i64 (.ofNat 7))) .nil) (some (.int .i64 (.ofNat 4))) .nil)))], .slice 109 0 5 5 false⟩,
  ⟨108, 8, [(107, .cells 3 4 (.node (.node (.node .nil (some (.int .i64 (.ofNat 7))) .nil) (some (.int .i64 (.ofNat 4))) .nil) (some (.int .i64 (.ofNat 3))) (.node .nil (some (.int .i64 (.ofNat 6))) .nil)))], .slice 107 0 4 4 false⟩,
  ⟨109, 10, [(109, .cells 3 5 (.node (.node (.node .nil (some (.int .i64 (.ofNat 6))) .nil) (some (.int .i64 (.ofNat 3))) .nil) (some (.int .i64 (.ofNat 1))) (.node (.node .nil (some (.int .i64 (.ofNat 7))) .nil) (some (.int .i64 (.ofNat 4))) .nil)))], .slice 109 0 5 5 false⟩,
  ⟨110, 10, [(109, .cells 3 5 (.node (.node (.node .nil (some (.int .i64 (.ofNat 6))) .nil) (some (.int .i64 (.ofNat 3))) .nil) (some (.int .i64 (.ofNat 2))) (.node (.node .nil (some (.int .i64 (.ofNat 7))) .nil) (some (.int .i64 (.ofNat 4))) .nil)))], .slice 109 0 5 5 false⟩,
  ⟨111, 12, [(111, .cells 3 6 (.node (.node (.node .nil (some (.int .i64 (.ofNat 4))) .nil) (some (.int .i64 (.ofNat 2))) (.node .nil (some (.int .i64 (.ofNat 7))) .nil)) (some (.int .i64 (.ofNat 1))) (.node (.node .nil (some (.int .i64 (.ofNat 6))) .nil) (some (.int .i64 (.ofNat 3))) .nil)))], .slice 111 0 6 6 false⟩]
def grps14 : List Grp := [
  ⟨112, 6, [(105, .cells 3 3 (.node (.node .nil (some (.int .i64 (.ofNat 6))) .nil) (some (.int .i64 (.ofNat 5))) (.node .nil (some (.int .i64 (.ofNat 7))) .nil)))], .slice 105 0 3 3 false⟩,
  ⟨113, 8, [(107, .cells 3 4 (.node (.node (.node .nil (some (.int .i64 (.ofNat 7))) .nil) (some (.int .i64 (.ofNat 5))) .nil) (some (.int .i64 (.ofNat 1))) (.node .nil (some (.int .i64 (.ofNat 6))) .nil)))], .slice 107 0 4 4 false⟩,
  ⟨114, 8, [(107, .cells 3 4 (.node (.node (.node .nil (some (.int .i64 (.ofNat 7))) .nil) (some (.int .i64 (.ofNat 5))) .nil) (some (.int .i64 (.ofNat 2))) (.node .nil (some (.int .i64 (.ofNat 6))) .nil)))], .slice 107 0 4 4 false⟩,
  ⟨115, 10, [(109, .cells 3 5 (.node (.node (.node .nil (some (.int .i64 (.ofNat 6))) .nil) (some (.int .i64 (.ofNat 2))) .nil) (some (.int .i64 (.ofNat 1))) (.node (.node .nil (some (.int .i64 (.ofNat 7))) .nil) (some (.int .i64 (.ofNat 5))) .nil)))], .slice 109 0 5 5 false⟩,
  ⟨116, 8, [(107, .cells 3 4 (.node (.node (.node .nil (some (.int .i64 (.ofNat 7))) .nil) (some (.int .i64 (.ofNat 5))) .nil) (some (.int .i64 (.ofNat 3))) (.node .nil (some (.int .i64 (.ofNat 6))) .nil)))], .slice 107 0 4 4 false⟩,
  ⟨117, 10, [(109, .cells 3 5 (.node (.node (.node .nil (some (.int .i64 (.ofNat 6))) .nil) (some (.int .i64 (.ofNat 3))) .nil) (some (.int .i64 (.ofNat 1))) (.node (.node .nil (some (.int .i64 (.ofNat 7))) .nil) (some (.int .i64 (.ofNat 5))) .nil)))], .slice 109 0 5 5 false⟩,
  ⟨118, 10, [(109, .cells 3 5 (.node (.node (.node .nil (some (.int .i64 (.ofNat 6))) .nil) (some (.int .i64 (.ofNat 3))) .nil) (some (.int .i64 (.ofNat 2))) (.node (.node .nil (some (.int .i64 (.ofNat 7))) .nil) (some (.int .i64 (.ofNat 5))) .nil)))], .slice 109 0 5 5 false⟩,
  ⟨119, 12, [(111, .cells 3 6 (.node (.node (.node .nil (some (.int .i64 (.ofNat 5))) .nil) (some (.int .i64 (.ofNat 2))) (.node .nil (some (.int .i64 (.ofNat 7))) .nil)) (some (.int .i64 (.ofNat 1))) (.node (.node .nil (some (.int .i64 (.ofNat 6))) .nil) (some (.int .i64 (.ofNat 3))) .nil)))], .slice 111 0 6 6 false⟩]
def grps15 : List Grp := [
  ⟨120, 8, [(107, .cells 3 4 (.node (.node (.node .nil (some (.int .i64 (.ofNat 7))) .nil) (some (.int .i64 (.ofNat 5))) .nil) (some (.int .i64 (.ofNat 4))) (.node .nil (some (.int .i64 (.ofNat 6))) .nil)))], .slice 107 0 4 4 false⟩,
  ⟨121, 10, [(109, .cells 3 5 (.node (.node (.node .nil (some (.int .i64 (.ofNat 6))) .nil) (some (.int .i64 (.ofNat 4))) .nil) (some (.int .i64 (.ofNat 1))) (.node (.node .nil (some (.int .i64 (.ofNat 7))) .nil) (some (.int .i64 (.ofNat 5))) .nil)))], .slice 109 0 5 5 false⟩,
  ⟨122, 10, [(109, .cells 3 5 (.node (.node (.node .nil (some (.int .i64 (.ofNat 6))) .nil) (some (.int .i64 (.ofNat 4))) .nil) (some (.int .i64 (.ofNat 2))) (.node (.node .nil (some (.int .i64 (.ofNat 7))) .nil) (some (.int .i64 (.ofNat 5))) .nil)))], .slice 109 0 5 5 false⟩,
  ⟨123, 12, [(111, .cells 3 6 (.node (.node (.node .nil (some (.int .i64 (.ofNat 5))) .nil) (some (.int .i64 (.ofNat 2))) (.node .nil (some (.int .i64 (.ofNat 7))) .nil)) (some (.int .i64 (.ofNat 1))) (.node (.node .nil (some (.int .i64 (.ofNat 6))) .nil) (some (.int .i64 (.ofNat 4))) .nil)))], .slice 111 0 6 6 false⟩,
  ⟨124, 10, [(109, .cells 3 5 (.node (.node (.node .nil (some (.int .i64 (.ofNat 6))) .nil) (some (.int .i64 (.ofNat 4))) .nil) (some (.int .i64 (.ofNat 3))) (.node (.node .nil (some (.int .i64 (.ofNat 7))) .nil) (some (.int .i64 (.ofNat 5))) .nil)))], .slice 109 0 5 5 false⟩,
  ⟨125, 12, [(111, .cells 3 6 (.node (.node (.node .nil (some (.int .i64 (.ofNat 5))) .nil) (some (.int .i64 (.ofNat 3))) (.node .nil (some (.int .i64 (.ofNat 7))) .nil)) (some (.int .i64 (.ofNat 1))) (.node (.node .nil (some (.int .i64 (.ofNat 6))) .nil) (some (.int .i64 (.ofNat 4))) .nil)))], .slice 111 0 6 6 false⟩,
  ⟨126, 12, [(111, .cells 3 6 (.node (.node (.node .nil (some (.int .i64 (.ofNat 5))) .nil) (some (.int .i64 (.ofNat 3))) (.node .nil (some (.int .i64 (.ofNat 7))) .nil)) (some (.int .i64 (.ofNat 2))) (.node (.node .nil (some (.int .i64 (.ofNat 6))) .nil) (some (.int .i64 (.ofNat 4))) .nil)))], .slice 111 0 6 6 false⟩,
  ⟨127, 14, [(113, .cells 3 7 (.node (.node (.node .nil (some (.int .i64 (.ofNat 4))) .nil) (some (.int .i64 (.ofNat 2))) (.node .nil (some (.int .i64 (.ofNat 6))) .nil)) (some (.int .i64 (.ofNat 1))) (.node (.node .nil (some (.int .i64 (.ofNat 5))) .nil) (some (.int .i64 (.ofNat 3))) (.node .nil (some (.int .i64 (.ofNat 7))) .nil))))], .slice 113 0 7 7 false⟩]
def grps : List Grp := grps0 ++ grps1 ++ grps2 ++ grps3 ++ grps4 ++ grps5 ++ grps6 ++ grps7 ++ grps8 ++ grps9 ++ grps10 ++ grps11 ++ grps12 ++ grps13 ++ grps14 ++ grps15
theorem grps_all : ∀ g, g < 128 → ∃ p ∈ grps, p.g = g := by
  have h : ((List.range 128).all fun g => grps.any fun p => p.g == g) = true := by kernel_rfl
  intro g hg
  have := List.all_eq_true.1 h g (List.mem_range.2 hg)
  obtain ⟨p, hp, e⟩ := List.any_eq_true.1 this
  exact ⟨p, hp, by simpa using e⟩
theorem grps_ok : grps.all chkGrp = true := by kernel_rfl
theorem chk1 : chkLit E3 1000000 4 [] 60 (.bool true) = true := by kernel_rfl
end Go.AEv
