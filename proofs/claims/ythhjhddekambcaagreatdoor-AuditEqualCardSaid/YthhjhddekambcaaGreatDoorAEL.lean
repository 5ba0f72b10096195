/- Which records are equal: the cases of an item, of a request, of a chain. Conditions: none. -/
import Derived.Test.YthhjhddekambcaaGreatDoorAE0
import Derived.Test.YthhjhddekambcaaGreatDoorEvSf
namespace Go.AEv
open Go.Proofs
noncomputable section
def u8c (n : Nat) : AVal := .int .u8 (.ofNat n)
def i64c (n : Nat) : AVal := .int .i64 (.ofNat n)
def allN (p : Nat → Bool) (l : List Nat) : Bool := List.rec true (fun a _ ih => ifB (p a) ih false) l
def rng (a n : Nat) : List Nat := (List.range n).map fun i => Nat.add a i
/-! ### What may stand in a result -/
def okI (lo hi : Int) (ok : List Nat) (v : AVal) : Bool := match v with | .int k n => band (isI64 k) (band (bnot (ilt n lo)) (bnot (ilt hi n))) | .sym i => memN i ok | _ => false
def okS (ok : List Nat) (v : AVal) : Bool := match v with | .str l => band (Nat.ble (lenA l 0) 20) (allN (fun b => Nat.blt b 256) l) | .sym i => memN i ok | _ => false
def okB (ok : List Nat) (v : AVal) : Bool := match v with | .bool _ => true | .sym i => memN i ok | _ => false
/-! ### Texts by their number -/
def strOk (v : AVal) (_ : Heap) : Bool := okS [] v
def permOk (v : AVal) (_ : Heap) : Bool := match v with | .agg [a, b, c] => band (okS [] a) (band (okS [] b) (okB [] c)) | _ => false
def chkRun (E : Env) (f : FuncId) (args : List AVal) (ok : AVal → Heap → Bool) : Bool := obind (abody E (arec E F) f args (startH E 300)) false fun p => ok p.1 p.2
def EN (l : List Fact) : Env := EnvT l []
def chkStr (f n : Nat) : Bool := chkRun (EN []) f [u8c n] strOk
def chkPm (n : Nat) : Bool := chkRun (EN []) 113 [u8c n] permOk
/-! ### A request -/
structure Ask where
  sess : Bool
  act : Bool
  pth : Nat
def boolV (b : Bool) : AVal := ifB b (.bool true) (.bool false)
def Ask.facts (x : Ask) : List Fact :=
  [.call 59 [.sym 105] (.sym 150), .call 60 [.sym 106] (.sym 151), .call 61 [.sym 105] (.sym 152), .bin .geq (.sym 104) (u8c 240) (boolV x.sess), .bin .geq (.sym 105) (u8c 240) (boolV x.act), .bin .geq (.sym 106) (u8c 240) (boolV (Nat.blt x.pth 4)),
   .bin .rem (.sym 104) (u8c 4) (.sym 153), .conv .i64 (.sym 153) (.sym 154), .bin .add (i64c 1) (.sym 154) (.sym 155), .conv .i64 (.sym 104) (.sym 156), .bin .sub (.sym 156) (i64c 250) (.sym 157)] ++ ifB (Nat.blt x.pth 4) [.bin .rem (.sym 106) (u8c 4) (u8c x.pth)] []
def askOk (v : AVal) (_ : Heap) : Bool := match v with | .agg [a, b, c] => band (okI 1 0 [155, 157] a) (band (okS [150, 152] b) (okS [151] c)) | _ => false
def chkAsk (x : Ask) : Bool := chkRun (EN x.facts) 22 [.agg [.sym 104, .sym 105, .sym 106]] askOk
def asks : List Ask := [false, true].flatMap fun s => [false, true].flatMap fun a => [0, 1, 2, 3, 4].map fun p => ⟨s, a, p⟩
def chkAsks : Bool := List.rec true (fun x _ ih => ifB (chkAsk x) ih false) asks
/-! ### A chain: how many roles are looked at, the user's rest by 7 (4: none of 1, 2, 3; 5: it is not asked) -/
structure Fl where
  k : Nat
  l : Nat
  why : Nat
def preV (row opq k : Nat) : AVal := natC k (.sym opq) fun _ => .slice row 0 k k false
def byteF (a b c k : Nat) : List Fact := (List.range k).flatMap fun i => [.bin .rem (.sym (Nat.add a i)) (u8c 8) (.sym (Nat.add b i)), .conv .i64 (.sym (Nat.add b i)) (.sym (Nat.add c i))]
def whyF (w : Nat) : List Fact := ifB (Nat.beq w 4) [.eq 1 (.sym 117) (u8c 1) false, .eq 1 (.sym 117) (u8c 2) false, .eq 1 (.sym 117) (u8c 3) false] []
def Fl.facts (x : Fl) : List Fact :=
  [.slen (.sym 70) (.sym 122), .slen (.sym 71) (.sym 123), .min (.sym 122) (i64c 4) (i64c x.k), .min (.sym 123) (i64c 4) (i64c x.l), .ssub (.sym 70) (i64c x.k) (preV 60 80 x.k), .ssub (.sym 71) (i64c x.l) (preV 61 81 x.l),
   .slen (.sym 80) (i64c 0), .slen (.sym 81) (i64c 0), .bin .rem (.sym 107) (u8c 7) (ifB (Nat.blt x.why 4) (u8c x.why) (.sym 117)), .conv .i64 (.sym 117) (.sym 118), .call 113 [.sym 108] (.agg [.sym 119, .sym 120, .sym 121])]
  ++ (whyF x.why ++ (byteF 72 124 132 x.k ++ byteF 76 128 136 x.l))
def viewT (row a k : Nat) : List (Nat × ABlk) := natC k [] fun _ => [(row, .view (Tr.ofList ((List.range k).map fun i => .sym (Nat.add a i))))]
def Fl.tabs (x : Fl) : List (Nat × ABlk) := viewT 60 72 x.k ++ viewT 61 76 x.l
def whyV (w : Nat) : AVal := ifB (Nat.beq w 5) (.bool false) (.bool true)
def zeroState : List AVal := [.int .i64 (.ofNat 0), .nilslice, .nilslice, .int .u64 (.ofNat 0), .nilslice, .nilslice, .nilslice, .nilslice, .nilslice, .nilslice]
def Fl.args (x : Fl) : List AVal := [.agg [.sym 107, .sym 108, .sym 70, .sym 71, whyV x.why], .agg zeroState, .agg [.sym 114, .sym 115, .sym 116]]
def flOk (v : AVal) (H : Heap) : Bool :=
  match v with
  | .agg [a, c, d, p, q, b] => band (okI 0 6 [118] a) (band (okSl H c) (band (okSl H d) (band (neSl c d) (band (okS [119] p) (band (okS [120] q) (okB [121] b))))))
  | _ => false
def chkFl (x : Fl) : Bool := band (closedTabs x.tabs) (chkRun (EnvT x.facts x.tabs) 26 x.args flOk)
def fls (k : Nat) : List Fl := (List.range 5).flatMap fun l => [1, 2, 3, 4, 5].map fun w => ⟨k, l, w⟩
def chkFls (k : Nat) : Bool := List.rec true (fun x _ ih => ifB (chkFl x) ih false) (fls k)
/-! ### An item: the tenant (rest by three), what is odd (0: none of the ten), the mode (0 right, 1 neither right nor granted, 2 granted) -/
def oddV (o : Nat) : AVal := natC o (.sym 103) fun _ => u8c o
def oddF (o : Nat) : List Fact := natC o ((List.range 10).map fun i => .eq 1 (.sym 103) (u8c (Nat.succ i)) false) fun _ => []
def baseF (ten odd : Nat) : List Fact :=
  [.bin .rem (.sym 101) (u8c 5) (.sym 110), .conv .i64 (.sym 110) (.sym 111), .bin .rem (.sym 100) (u8c 3) (u8c ten), .bin .rem (.sym 102) (u8c 32) (.sym 112), .conv .i64 (.sym 112) (.sym 113),
   .call 22 [.agg [.sym 104, .sym 105, .sym 106]] (.agg [.sym 114, .sym 115, .sym 116])] ++ oddF odd
def grantedV (m : Nat) : AVal := natC m (.sym 140) fun m => natC m (.bool false) fun _ => .bool true
def rightV (m : Nat) : AVal := natC m (.bool true) fun _ => .bool false
def itemV (odd mode : Nat) (why : AVal) : List AVal := [.agg [.sym 100, .sym 101, .sym 102, oddV odd, .sym 104, .sym 105, .sym 106, grantedV mode, rightV mode, .sym 107, .sym 108, .sym 70, .sym 71, why], i64c 1, .nilslice]
def fitOk (v : AVal) (H : Heap) : Bool :=
  match v with
  | .agg [c0, c1, c2, c3, c4, c5, c6, c7, c8, c9, c10, c11, c12, c13] =>
    band (okI 1 2 [] c0) (band (okI (-1) 4 [111] c1) (band (okS [] c2) (band (okI 1 0 [114] c3) (band (okS [115] c4) (band (okS [116] c5) (band (okI 0 30001 [113] c6) (band (okB [] c7) (band (okI 0 257 [118] c8)
      (band (okSl H c9) (band (okSl H c10) (band (neSl c9 c10) (band (okS [119] c11) (band (okS [120] c12) (okB [121] c13))))))))))))))
  | _ => false
/-- the chain is not asked for -/
def chkItem0 (ten odd mode : Nat) : Bool := chkRun (EN (baseF ten odd)) 5 (itemV odd mode (.sym 141)) fitOk
/-- the chain is what its call gives -/
def osl1 (b q n : Nat) : AVal := natC n .nilslice fun _ => .osl b (.sym q)
def row1 (b q n : Nat) : List (Nat × ABlk) := natC n [] fun _ => [(b, .ints 3 (.sym q))]
def deepV (d : Nat) : AVal := natC d (.bool false) fun d => natC d (.bool true) fun _ => .sym 121
def chainF (u n d : Nat) : Fact := .make 26 [.agg [.sym 107, .sym 108, .sym 70, .sym 71, .sym 141], .agg zeroState, .agg [.sym 114, .sym 115, .sym 116]] 300 2 (row1 300 142 u ++ row1 301 143 n) (.agg [.sym 118, osl1 300 142 u, osl1 301 143 n, .sym 119, .sym 120, deepV d])
/-- rows that are read alone lie at 60 and 61: what they are is not asked -/
def EV (b0 b1 : ABlk) (l : List Fact) : Env := EnvT l (tabs ++ [(60, b0), (61, b1)])
def chkItem2 (b0 b1 : ABlk) (ten odd u n d : Nat) : Bool := chkRun (EV b0 b1 (chainF u n d :: baseF ten odd)) 5 (itemV odd 2 (.sym 141)) fitOk
/-- one role more behind the chain's: its call is run -/
def chkItem6 (ten : Nat) (x : Fl) : Bool := chkRun (EnvT (baseF ten 6 ++ x.facts) x.tabs) 5 (itemV 6 2 (whyV x.why)) fitOk
def chkItem6s (ten k : Nat) : Bool := List.rec true (fun x _ ih => ifB (chkItem6 ten x) ih false) (fls k)
def chkOdd (b0 b1 : ABlk) (ten odd : Nat) : Bool :=
  ifB (Nat.beq odd 6) true (allN (fun u => allN (fun n => ifB (Nat.beq odd 9) (band (chkItem2 b0 b1 ten odd u n 0) (chkItem2 b0 b1 ten odd u n 1)) (chkItem2 b0 b1 ten odd u n 2)) [0, 1]) [0, 1])
def chkTen2 (b0 b1 : ABlk) (ten : Nat) : Bool := allN (chkOdd b0 b1 ten) (List.range 11)
def chkTen0 (ten : Nat) : Bool := allN (fun odd => band (chkItem0 ten odd 0) (chkItem0 ten odd 1)) (List.range 11)
end
end Go.AEv
