/- Which records are equal: the bytes of a record. Conditions: none. -/
import Derived.Test.YthhjhddekambcaaGreatDoorAEL
namespace Go.AEv
open Go.Proofs
noncomputable section
/-! ### A number's bytes: those below 128, 16384, 2097152 -/
def u64c (n : Nat) : AVal := .int .u64 (.ofNat n)
def putF (c : Nat) : List Fact :=
  [.bin .rem (.sym 100) (u64c 128) (.sym 101), .conv .u8 (.sym 101) (.sym 102), .bin .geq (.sym 100) (u64c 128) (boolV (Nat.ble 2 c)), .bin .quo (.sym 100) (u64c 128) (.sym 103), .bin .rem (.sym 103) (u64c 128) (.sym 104), .conv .u8 (.sym 104) (.sym 105), .bin .add (.sym 105) (u8c 128) (.sym 106),
   .bin .geq (.sym 103) (u64c 128) (boolV (Nat.ble 3 c)), .bin .quo (.sym 103) (u64c 128) (.sym 107), .bin .rem (.sym 107) (u64c 128) (.sym 108), .conv .u8 (.sym 108) (.sym 109), .bin .add (.sym 109) (u8c 128) (.sym 110), .bin .geq (.sym 107) (u64c 128) (.bool false)]
def putL (c : Nat) : List AVal := natC c [] fun c => natC c [.sym 102] fun c => natC c [.sym 106, .sym 102] fun _ => [.sym 110, .sym 106, .sym 102]
/-- a new row of these cells, from its beginning -/
def okBytes (l : List AVal) (v : AVal) (H : Heap) : Bool :=
  match v with
  | .slice b o n cp _ => band (Nat.beq o 0) (band (Nat.ble 300 b) (band (Nat.beq n (lenA l 0)) (obind (H.row b) false fun r => band (Nat.beq r.t 5) (band (Nat.ble cp r.n) (band (Nat.ble n cp) (obind (Tr.gets n r.c 0) false fun cs => vsbeq cs l))))))
  | _ => false
def chkPut (c : Nat) : Bool := chkRun (EN (putF c)) 28 [.sym 100] (okBytes (putL c))
/-! ### A text's bytes -/
def okText (q : Nat) (v : AVal) (H : Heap) : Bool := match v with | .osl b s => band (Nat.ble 300 b) (band (vbeq s (.sym q)) (obind (H.blk.get b) false fun k => obind (asText k) false fun p => band (Nat.beq p.1 5) (vbeq p.2 s))) | _ => false
/-- a text that is made by a call -/
def textF (f : FuncId) (args : List AVal) (q : Nat) : Fact := .make f args 300 1 [(300, .text 5 (.sym q))] (.osl 300 (.sym q))
def someF (q : Nat) : Fact := .eq 2 (.sym q) (.str []) false
/-- a string and another behind it, which are not long -/
def catF (a b : AVal) (r n : Nat) : List Fact := [.bin .add a b (.sym r), .len (.sym r) (.sym n), .bin .gtr (.sym n) (.int .i64 (.ofNat 1000000000)) (.bool false)]
def strF : List Fact := [.len (.sym 100) (.sym 101), .conv .u64 (.sym 101) (.sym 102), textF 28 [.sym 102] 103, someF 100] ++ catF (.sym 103) (.sym 100) 104 105
def chkStrB : Bool := chkRun (EN strF) 29 [.sym 100] (okText 104)
def chkStr0 : Bool := chkRun (EN []) 29 [.str []] (okBytes [u8c 0])
def chkPutInt (n : Nat) : Bool := chkRun (EN []) 30 [.int .i64 (.ofNat n)] (okBytes [u8c (Nat.mul 2 n)])
def chkFlag (b : Bool) : Bool := chkRun (EN []) 31 [boolV b] (okBytes [u8c (ifB b 1 0)])
/-! ### Lists of numbers -/
def numsF (k : Nat) : List Fact :=
  (List.range k).flatMap fun i => [.conv .u64 (.sym (Nat.add 72 i)) (.sym (Nat.add 110 i)), textF 28 [.sym (Nat.add 110 i)] (Nat.add 120 i), someF (Nat.add 120 i)] ++ catF (natC i (.str [k]) fun j => .sym (Nat.add 130 j)) (.sym (Nat.add 120 i)) (Nat.add 130 i) (Nat.add 140 i)
def numsT (k : Nat) : List (Nat × ABlk) := [(60, .view (Tr.ofList ((List.range k).map fun i => .sym (Nat.add 72 i))))]
def chkNums (k : Nat) : Bool := band (closedTabs (numsT k)) (chkRun (EnvT (numsF k) (numsT k)) 32 [.slice 60 0 k k false] (okText (Nat.add 129 k)))
def numsT0 : List (Nat × ABlk) := [(60, .view (Tr.ofList ((List.range 64).map fun _ => .int .i64 (.ofNat 0))))]
def chkNums64 : Bool := band (closedTabs numsT0) (chkRun (EnvT [] numsT0) 32 [.slice 60 0 64 64 false] (okBytes (u8c 64 :: (List.range 64).map fun _ => u8c 0)))
def chkNums0 : Bool := chkRun (EN []) 32 [.nilslice] (okBytes [u8c 0])
/-! ### A record's bytes -/
def osl1b (b q n : Nat) : AVal := natC n .nilslice fun _ => .osl b (.sym q)
def recV (n m : Nat) : AVal := .agg [.sym 100, .sym 101, .sym 102, .sym 103, .sym 104, .sym 105, .sym 106, .sym 107, .sym 108, osl1b 60 70 n, osl1b 61 71 m, .sym 109, .sym 110, .sym 111]
def recT (n m : Nat) : List (Nat × ABlk) := row1 60 70 n ++ row1 61 71 m
/-- the symbol of a list's bytes: 134 where there is none -/
def lsym (n q : Nat) : Nat := natC n 134 fun _ => q
def partsL (n m : Nat) : List Nat := [121, 124, 129, 125, 126, 122, 130, 123, lsym n 132, lsym m 133, 127, 128, 131]
def catsF (l : List Nat) : Nat → Nat → List Fact :=
  List.rec (motive := fun _ => Nat → Nat → List Fact) (fun _ _ => []) (fun p _ ih a r => appA (catF (.sym a) (.sym p) r (Nat.add r 20)) (ih r (Nat.succ r))) l
def bytesF (n m : Nat) : List Fact :=
  [.conv .u64 (.sym 100) (.sym 112), .conv .u64 (.sym 101) (.sym 113), .conv .u64 (.sym 106) (.sym 114), .conv .u64 (.sym 108) (.sym 115), .conv .i64 (.sym 103) (.sym 103),
   textF 28 [.sym 112] 120, textF 28 [.sym 113] 121, textF 28 [.sym 114] 122, textF 28 [.sym 115] 123, textF 29 [.sym 102] 124, textF 29 [.sym 104] 125, textF 29 [.sym 105] 126, textF 29 [.sym 109] 127, textF 29 [.sym 110] 128,
   textF 30 [.sym 103] 129, textF 31 [.sym 107] 130, textF 31 [.sym 111] 131, textF 32 [.nilslice] 134] ++ (natC n [] fun _ => [textF 32 [osl1b 60 70 n] 132]) ++ (natC m [] fun _ => [textF 32 [osl1b 61 71 m] 133]) ++ (partsL n m).map someF ++ catsF (partsL n m) 120 140
def chkBytes (n m : Nat) : Bool := band (closedTabs (recT n m)) (chkRun (EnvT (bytesF n m) (recT n m)) 7 [recV n m] (okText 152))
end
end Go.AEv
