/- A great house has a snapshot of several parts: the evaluator at this program. Conditions: none. -/
import Derived.Test.YtgmnkhopdoiegaaGreatDoorLSD
import Derived.Test.YtgmnkhopdoiegaaGreatDoorEvSe
import Derived.Test.YtgmnkhopdoiegaaGreatDoorProg
import Derived.KernelRfl
namespace Go.AEv
open Go.Proofs
noncomputable section
/-! ### Surroundings -/
def specs : List (FuncId × Spec) := [(fAwake, .fact), (fPayload, .fact), (fSBytes, .fact), (fSEqual, .fact), (fValid, .fact), (fNew, .fact), (fAll, .fact), (fUpd, .fact), (fRUpd, .fact), (fCBytes, .fact), (fApply, .fact), (fCheck, .fact), (fRead, .fact), (fOrder, .fact), (fNOf, .fact), (fNRead, .fact), (338, .insert), (322, .insert), (285, .insert), (378, .mapsClone), (493, .indexByte), (372, .makeNoZero 5), (371, .same), (195, .compare), (466, .count)]
def tabs : List (Nat × ABlk) := []
def EnvOf (l : List Fact) : Env := mkEnv Tryz.prog specs l tabs
def E0 : Env := EnvOf []
def EOrd : Env := EnvOf [ordF]
def ENew : Env := EnvOf [newF]
def EAp : Env := EnvOf [.callF validG, .callF checkG]
def EAll : Env := EnvOf ((List.range 200).map applyF)
def ECb : Env := EnvOf [.callF checkG]
def EPay : Env := EnvOf [.makeF cbytesG]
def EOf : Env := EnvOf [.callF validG]
def ENr : Env := EnvOf [ofF]
def ERead : Env := EnvOf [ordF, nrF]
def ELaw (T c : Nat) : Env := EnvOf (lawFacts T c)
def F : Nat := 1000000
def chkOrd : Bool := chkMake E0 F fOrder ordArgs 60 ordN ordRows ordVal
def chkNew : Bool := chkMake EOrd F fNew [] 60 newN newRows newVal
def chkAwake : Bool := chkLit ENew F fAwake [] 60 (.bool true)
def chkValid (i : Nat) : Bool := chkLit E0 F fValid [.str (nm i)] 60 (.bool true)
def chkCheck (i : Nat) : Bool := chkLit E0 F fCheck [chgA i] 60 i0
def chkApply (i : Nat) : Bool := chkMemo EAp F fApply (apArgs i) (apNx i) (apIn i) (apOut i) (apVal i) (B (i + 1) + 57)
def chkAll : Bool := chkMemoG EAll F fAll 300 allArgs allNx allIn allOut allVal allN
def chkCb (i : Nat) : Bool := chkMake ECb F fCBytes [chgA i] 60 13 (cbRows i) cbVal
def chkPay (k : Nat) : Bool := chkMemoG EPay F fPayload 300 (payArgs k) 301 payIn (payOut k) payVal 3715
def chkOf : Bool := chkMemo EOf F fNOf ofArgs 1516 ofIn (ofIn ++ ofNew) ofVal 2715
def chkNr : Bool := chkMemo ENr F fNRead nrArgs 311 nrIn (nrIn ++ ofNew) ofVal 2715
def chkRead : Bool := chkMemoG ERead F fRead 300 readArgs 301 readIn readOut readVal readN
def chkRb : Bool := chkMemoG E0 F fSBytes 300 rbArgs 3182 rbIn rbOut rbVal rbN
def chkSb : Bool := chkMemoG E0 F fSBytes 300 sbArgs allN sbIn sbOut sbVal sbN
def chkEq : Bool := chkMemoG E0 F fSEqual 300 eqArgs allN (rbIn ++ sbIn) (rbIn ++ sbIn) (.bool true) eqN
def chkLaw (T c : Nat) : Bool := chkLit (ELaw T c) F fLaw lawArgs 300 (.bool true)
def rng (a n : Nat) : List Nat := (List.range n).map fun i => Nat.add a i
def allB (f : Nat → Bool) (l : List Nat) : Bool := List.rec true (fun a _ ih => ifB (frc a f) ih false) l
end
end Go.AEv
