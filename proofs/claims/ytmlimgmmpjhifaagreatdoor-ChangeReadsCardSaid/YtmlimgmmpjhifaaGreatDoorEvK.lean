/- A verified evaluator of Go code, and its soundness (EvK). Conditions: those of each theorem. -/
import Derived.AtR
set_option linter.all false
namespace Go.AEv
section
universe u v
noncomputable section
def ifB {α:Sort u} (b:Bool) (t e:α):α:=Bool.rec e t b
def bnd {α:Type u}{β:Type v} (x:Option α) (f:α→Option β):Option β:=Option.rec none f x
def obind {α:Type u}{β:Sort v} (x:Option α) (e:β) (f:α→β):β:=Option.rec e f x
def frc {α:Sort u} (n:Nat) (f:Nat→α):α:=Nat.rec (f 0) (fun m _=>f m) (Nat.succ n)
def natC {α:Sort u} (n:Nat) (z:α) (s:Nat→α):α:=Nat.rec z (fun m _=>s m) n
def intC {α:Sort u} (n:Int) (p:Nat→α) (q:Nat→α):α:=Int.rec p q n
inductive Pa where
 | e | o (p:Pa) | i (p:Pa)
 deriving DecidableEq
inductive Tr (α:Type) where
 | nil
 | node (l:Tr α) (v:Option α) (r:Tr α)
def pathF (f:Nat):Nat→Pa:=
 Nat.rec (motive:=fun _=>Nat→Pa) (fun _=>.e)
  (fun _ ih i=>ifB (Nat.beq i 0) .e (ifB (Nat.beq (Nat.mod i 2) 1) (.o (ih (Nat.div i 2))) (.i (ih (Nat.sub (Nat.div i 2) 1))))) f
def path (n:Nat):Pa:=pathF (Nat.succ n) n
def pget {α:Type} (p:Pa):Tr α→Option α:=
 Pa.rec (motive:=fun _=>Tr α→Option α)
  (fun t=>Tr.rec none (fun _ v _ _ _=>v) t)
  (fun _ ih t=>Tr.rec none (fun l _ _ _ _=>ih l) t)
  (fun _ ih t=>Tr.rec none (fun _ _ r _ _=>ih r) t) p
def pset {α:Type} (a:Option α) (p:Pa):Tr α→Tr α:=
 Pa.rec (motive:=fun _=>Tr α→Tr α)
  (fun t=>Tr.rec (.node .nil a .nil) (fun l _ r _ _=>.node l a r) t)
  (fun _ ih t=>Tr.rec (.node (ih .nil) none .nil) (fun l v r _ _=>.node (ih l) v r) t)
  (fun _ ih t=>Tr.rec (.node .nil none (ih .nil)) (fun l v r _ _=>.node l v (ih r)) t) p
namespace Tr
variable {α:Type}
def get (t:Tr α) (i:Nat):Option α:=pget (path i) t
def set (t:Tr α) (i:Nat) (a:α):Tr α:=pset (some a) (path i) t
def del (t:Tr α) (i:Nat):Tr α:=pset none (path i) t
end Tr
def lC {α:Type u}{β:Sort v} (l:List α) (z:β) (s:α→List α→β):β:=List.rec z (fun a l _=>s a l) l
end
end
section
universe u
noncomputable section
inductive AVal where
 | bool (b:Bool)
 | int (k:IntKind) (n:Int)
 | str (s:List Nat)
 | nilp
 | ptr (b off:Nat)
 | nilslice
 | slice (b off len cap:Nat) (exact:Bool)
 | nilmap
 | map (r:Nat)
 | fn (f:FuncId) (first captured:List AVal)
 | yieldf (l:Nat)
 | capv (b c:Nat)
 | nilfn
 | iface (t:TypeId) (v:AVal)
 | niliface
 | agg (l:List AVal)
 | tuple (l:List AVal)
 | sym (i:Nat)
 | esl (b o q:Nat)
 | osl (b:Nat) (v:AVal)
 | psl (b o q c:Nat) (ex:Bool)
def aundef:AVal:=.tuple []
structure Sl where
 b:Nat
 off:Nat
 len:Nat
 cap:Nat
 ex:Bool
def asBool (v:AVal):Option Bool:=
 @AVal.rec (fun _=>Option Bool) (fun _=>PUnit)
  (fun b=>some b)
  (fun _ _=>none)
  (fun _=>none)
  (none)
  (fun _ _=>none)
  (none)
  (fun _ _ _ _ _=>none)
  (none)
  (fun _=>none)
  (fun _ _ _ _ _=>none)
  (fun _=>none)
  (fun _ _=>none)
  (none)
  (fun _ _ _=>none)
  (none)
  (fun _ _=>none)
  (fun _ _=>none)
  (fun _=>none)
  (fun _ _ _=>none)
  (fun _ _ _=>none)
  (fun _ _ _ _ _=>none)
  ⟨⟩ (fun _ _ _ _=>⟨⟩) v
def asInt (v:AVal):Option (IntKind×Int):=
 @AVal.rec (fun _=>Option (IntKind×Int)) (fun _=>PUnit)
  (fun _=>none)
  (fun k n=>some (k,n))
  (fun _=>none)
  (none)
  (fun _ _=>none)
  (none)
  (fun _ _ _ _ _=>none)
  (none)
  (fun _=>none)
  (fun _ _ _ _ _=>none)
  (fun _=>none)
  (fun _ _=>none)
  (none)
  (fun _ _ _=>none)
  (none)
  (fun _ _=>none)
  (fun _ _=>none)
  (fun _=>none)
  (fun _ _ _=>none)
  (fun _ _ _=>none)
  (fun _ _ _ _ _=>none)
  ⟨⟩ (fun _ _ _ _=>⟨⟩) v
def asIdx (v:AVal):Option Int:=
 @AVal.rec (fun _=>Option Int) (fun _=>PUnit)
  (fun _=>none)
  (fun _ n=>some n)
  (fun _=>none)
  (none)
  (fun _ _=>none)
  (none)
  (fun _ _ _ _ _=>none)
  (none)
  (fun _=>none)
  (fun _ _ _ _ _=>none)
  (fun _=>none)
  (fun _ _=>none)
  (none)
  (fun _ _ _=>none)
  (none)
  (fun _ _=>none)
  (fun _ _=>none)
  (fun _=>none)
  (fun _ _ _=>none)
  (fun _ _ _=>none)
  (fun _ _ _ _ _=>none)
  ⟨⟩ (fun _ _ _ _=>⟨⟩) v
def asPtr (v:AVal):Option (Nat×Nat):=
 @AVal.rec (fun _=>Option (Nat×Nat)) (fun _=>PUnit)
  (fun _=>none)
  (fun _ _=>none)
  (fun _=>none)
  (none)
  (fun b o=>some (b,o))
  (none)
  (fun _ _ _ _ _=>none)
  (none)
  (fun _=>none)
  (fun _ _ _ _ _=>none)
  (fun _=>none)
  (fun _ _=>none)
  (none)
  (fun _ _ _=>none)
  (none)
  (fun _ _=>none)
  (fun _ _=>none)
  (fun _=>none)
  (fun _ _ _=>none)
  (fun _ _ _=>none)
  (fun _ _ _ _ _=>none)
  ⟨⟩ (fun _ _ _ _=>⟨⟩) v
def asSl (v:AVal):Option Sl:=
 @AVal.rec (fun _=>Option Sl) (fun _=>PUnit)
  (fun _=>none)
  (fun _ _=>none)
  (fun _=>none)
  (none)
  (fun _ _=>none)
  (none)
  (fun b o l c x=>some ⟨b,o,l,c,x⟩)
  (none)
  (fun _=>none)
  (fun _ _ _ _ _=>none)
  (fun _=>none)
  (fun _ _=>none)
  (none)
  (fun _ _ _=>none)
  (none)
  (fun _ _=>none)
  (fun _ _=>none)
  (fun _=>none)
  (fun _ _ _=>none)
  (fun _ _ _=>none)
  (fun _ _ _ _ _=>none)
  ⟨⟩ (fun _ _ _ _=>⟨⟩) v
def asStr (v:AVal):Option (List Nat):=
 @AVal.rec (fun _=>Option (List Nat)) (fun _=>PUnit)
  (fun _=>none)
  (fun _ _=>none)
  (fun s=>some s)
  (none)
  (fun _ _=>none)
  (none)
  (fun _ _ _ _ _=>none)
  (none)
  (fun _=>none)
  (fun _ _ _ _ _=>none)
  (fun _=>none)
  (fun _ _=>none)
  (none)
  (fun _ _ _=>none)
  (none)
  (fun _ _=>none)
  (fun _ _=>none)
  (fun _=>none)
  (fun _ _ _=>none)
  (fun _ _ _=>none)
  (fun _ _ _ _ _=>none)
  ⟨⟩ (fun _ _ _ _=>⟨⟩) v
def asAgg (v:AVal):Option (List AVal):=
 @AVal.rec (fun _=>Option (List AVal)) (fun _=>PUnit)
  (fun _=>none)
  (fun _ _=>none)
  (fun _=>none)
  (none)
  (fun _ _=>none)
  (none)
  (fun _ _ _ _ _=>none)
  (none)
  (fun _=>none)
  (fun _ _ _ _ _=>none)
  (fun _=>none)
  (fun _ _=>none)
  (none)
  (fun _ _ _=>none)
  (none)
  (fun l _=>some l)
  (fun _ _=>none)
  (fun _=>none)
  (fun _ _ _=>none)
  (fun _ _ _=>none)
  (fun _ _ _ _ _=>none)
  ⟨⟩ (fun _ _ _ _=>⟨⟩) v
def asTuple (v:AVal):Option (List AVal):=
 @AVal.rec (fun _=>Option (List AVal)) (fun _=>PUnit)
  (fun _=>none)
  (fun _ _=>none)
  (fun _=>none)
  (none)
  (fun _ _=>none)
  (none)
  (fun _ _ _ _ _=>none)
  (none)
  (fun _=>none)
  (fun _ _ _ _ _=>none)
  (fun _=>none)
  (fun _ _=>none)
  (none)
  (fun _ _ _=>none)
  (none)
  (fun _ _=>none)
  (fun l _=>some l)
  (fun _=>none)
  (fun _ _ _=>none)
  (fun _ _ _=>none)
  (fun _ _ _ _ _=>none)
  ⟨⟩ (fun _ _ _ _=>⟨⟩) v
def asIface (v:AVal):Option (TypeId×AVal):=
 @AVal.rec (fun _=>Option (TypeId×AVal)) (fun _=>PUnit)
  (fun _=>none)
  (fun _ _=>none)
  (fun _=>none)
  (none)
  (fun _ _=>none)
  (none)
  (fun _ _ _ _ _=>none)
  (none)
  (fun _=>none)
  (fun _ _ _ _ _=>none)
  (fun _=>none)
  (fun _ _=>none)
  (none)
  (fun t v _=>some (t,v))
  (none)
  (fun _ _=>none)
  (fun _ _=>none)
  (fun _=>none)
  (fun _ _ _=>none)
  (fun _ _ _=>none)
  (fun _ _ _ _ _=>none)
  ⟨⟩ (fun _ _ _ _=>⟨⟩) v
def asOsl (v:AVal):Option (Nat×AVal):=
 @AVal.rec (fun _=>Option (Nat×AVal)) (fun _=>PUnit)
  (fun _=>none)
  (fun _ _=>none)
  (fun _=>none)
  (none)
  (fun _ _=>none)
  (none)
  (fun _ _ _ _ _=>none)
  (none)
  (fun _=>none)
  (fun _ _ _ _ _=>none)
  (fun _=>none)
  (fun _ _=>none)
  (none)
  (fun _ _ _=>none)
  (none)
  (fun _ _=>none)
  (fun _ _=>none)
  (fun _=>none)
  (fun _ _ _=>none)
  (fun b v _=>some (b,v))
  (fun _ _ _ _ _=>none)
  ⟨⟩ (fun _ _ _ _=>⟨⟩) v
structure Psl where
 b:Nat
 o:Nat
 q:Nat
 c:Nat
 ex:Bool
def asPsl (v:AVal):Option Psl:=
 @AVal.rec (fun _=>Option Psl) (fun _=>PUnit)
  (fun _=>none)
  (fun _ _=>none)
  (fun _=>none)
  (none)
  (fun _ _=>none)
  (none)
  (fun _ _ _ _ _=>none)
  (none)
  (fun _=>none)
  (fun _ _ _ _ _=>none)
  (fun _=>none)
  (fun _ _=>none)
  (none)
  (fun _ _ _=>none)
  (none)
  (fun _ _=>none)
  (fun _ _=>none)
  (fun _=>none)
  (fun _ _ _=>none)
  (fun _ _ _=>none)
  (fun b o q c x=>some ⟨b,o,q,c,x⟩)
  ⟨⟩ (fun _ _ _ _=>⟨⟩) v
def asMap (v:AVal):Option Nat:=
 @AVal.rec (fun _=>Option Nat) (fun _=>PUnit)
  (fun _=>none)
  (fun _ _=>none)
  (fun _=>none)
  (none)
  (fun _ _=>none)
  (none)
  (fun _ _ _ _ _=>none)
  (none)
  (fun r=>some r)
  (fun _ _ _ _ _=>none)
  (fun _=>none)
  (fun _ _=>none)
  (none)
  (fun _ _ _=>none)
  (none)
  (fun _ _=>none)
  (fun _ _=>none)
  (fun _=>none)
  (fun _ _ _=>none)
  (fun _ _ _=>none)
  (fun _ _ _ _ _=>none)
  ⟨⟩ (fun _ _ _ _=>⟨⟩) v
def isNil (v:AVal):Bool:=
 @AVal.rec (fun _=>Bool) (fun _=>PUnit)
  (fun _=>false)
  (fun _ _=>false)
  (fun _=>false)
  (true)
  (fun _ _=>false)
  (false)
  (fun _ _ _ _ _=>false)
  (false)
  (fun _=>false)
  (fun _ _ _ _ _=>false)
  (fun _=>false)
  (fun _ _=>false)
  (true)
  (fun _ _ _=>false)
  (true)
  (fun _ _=>false)
  (fun _ _=>false)
  (fun _=>true)
  (fun _ _ _=>false)
  (fun _ _ _=>false)
  (fun _ _ _ _ _=>false)
  ⟨⟩ (fun _ _ _ _=>⟨⟩) v
def isNilSl (v:AVal):Bool:=
 @AVal.rec (fun _=>Bool) (fun _=>PUnit)
  (fun _=>false)
  (fun _ _=>false)
  (fun _=>false)
  (false)
  (fun _ _=>false)
  (true)
  (fun _ _ _ _ _=>false)
  (false)
  (fun _=>false)
  (fun _ _ _ _ _=>false)
  (fun _=>false)
  (fun _ _=>false)
  (false)
  (fun _ _ _=>false)
  (false)
  (fun _ _=>false)
  (fun _ _=>false)
  (fun _=>false)
  (fun _ _ _=>false)
  (fun _ _ _=>false)
  (fun _ _ _ _ _=>false)
  ⟨⟩ (fun _ _ _ _=>⟨⟩) v
def isNilP (v:AVal):Bool:=
 @AVal.rec (fun _=>Bool) (fun _=>PUnit)
  (fun _=>false)
  (fun _ _=>false)
  (fun _=>false)
  (true)
  (fun _ _=>false)
  (false)
  (fun _ _ _ _ _=>false)
  (false)
  (fun _=>false)
  (fun _ _ _ _ _=>false)
  (fun _=>false)
  (fun _ _=>false)
  (false)
  (fun _ _ _=>false)
  (false)
  (fun _ _=>false)
  (fun _ _=>false)
  (fun _=>false)
  (fun _ _ _=>false)
  (fun _ _ _=>false)
  (fun _ _ _ _ _=>false)
  ⟨⟩ (fun _ _ _ _=>⟨⟩) v
def okCell (v:AVal):Bool:=
 @AVal.rec (fun _=>Bool) (fun _=>PUnit)
  (fun _=>true)
  (fun _ _=>true)
  (fun _=>true)
  (true)
  (fun _ _=>true)
  (true)
  (fun _ _ _ _ _=>true)
  (true)
  (fun _=>true)
  (fun _ _ _ _ _=>true)
  (fun _=>true)
  (fun _ _=>true)
  (true)
  (fun _ _ _=>true)
  (true)
  (fun _ _=>false)
  (fun _ _=>false)
  (fun _=>true)
  (fun _ _ _=>true)
  (fun _ _ _=>true)
  (fun _ _ _ _ _=>true)
  ⟨⟩ (fun _ _ _ _=>⟨⟩) v
def isSym (v:AVal):Bool:=
 @AVal.rec (fun _=>Bool) (fun _=>PUnit)
  (fun _=>false)
  (fun _ _=>false)
  (fun _=>false)
  (false)
  (fun _ _=>false)
  (false)
  (fun _ _ _ _ _=>false)
  (false)
  (fun _=>false)
  (fun _ _ _ _ _=>false)
  (fun _=>false)
  (fun _ _=>false)
  (false)
  (fun _ _ _=>false)
  (false)
  (fun _ _=>false)
  (fun _ _=>false)
  (fun _=>true)
  (fun _ _ _=>false)
  (fun _ _ _=>false)
  (fun _ _ _ _ _=>false)
  ⟨⟩ (fun _ _ _ _=>⟨⟩) v
def isEsl (v:AVal):Bool:=
 @AVal.rec (fun _=>Bool) (fun _=>PUnit)
  (fun _=>false)
  (fun _ _=>false)
  (fun _=>false)
  (false)
  (fun _ _=>false)
  (false)
  (fun _ _ _ _ _=>false)
  (false)
  (fun _=>false)
  (fun _ _ _ _ _=>false)
  (fun _=>false)
  (fun _ _=>false)
  (false)
  (fun _ _ _=>false)
  (false)
  (fun _ _=>false)
  (fun _ _=>false)
  (fun _=>false)
  (fun _ _ _=>true)
  (fun _ _ _=>false)
  (fun _ _ _ _ _=>false)
  ⟨⟩ (fun _ _ _ _=>⟨⟩) v
def acells (v:AVal):List AVal:=
 @AVal.rec (fun _=>List AVal) (fun _=>PUnit)
  (fun b=>[AVal.bool b])
  (fun k n=>[AVal.int k n])
  (fun s=>[AVal.str s])
  ([AVal.nilp])
  (fun b o=>[AVal.ptr b o])
  ([AVal.nilslice])
  (fun b o l c x=>[AVal.slice b o l c x])
  ([AVal.nilmap])
  (fun r=>[AVal.map r])
  (fun f l m _ _=>[AVal.fn f l m])
  (fun l=>[AVal.yieldf l])
  (fun b c=>[AVal.capv b c])
  ([AVal.nilfn])
  (fun t v _=>[AVal.iface t v])
  ([AVal.niliface])
  (fun l _=>l)
  (fun l _=>[AVal.tuple l])
  (fun i=>[AVal.sym i])
  (fun b o q=>[AVal.esl b o q])
  (fun b v _=>[AVal.osl b v])
  (fun b o q c x=>[AVal.psl b o q c x])
  ⟨⟩ (fun _ _ _ _=>⟨⟩) v
def kcode (k:IntKind):Nat:=@IntKind.rec (fun _=>Nat) 0 1 2 3 4 5 6 7 k
def kbeq (k j:IntKind):Bool:=Nat.beq (kcode k) (kcode j)
def ibeq (a b:Int):Bool:=intC a (fun m=>intC b (Nat.beq m) fun _=>false) fun m=>intC b (fun _=>false) (Nat.beq m)
def ilt (a b:Int):Bool:=intC a (fun m=>intC b (Nat.blt m) fun _=>false) fun m=>intC b (fun _=>true) fun n=>Nat.blt n m
def lbeq (l:List Nat):List Nat→Bool:=
 List.rec (motive:=fun _=>List Nat→Bool) (fun m=>lC m true fun _ _=>false)
  (fun a _ ih m=>lC m false fun b m=>ifB (Nat.beq a b) (ih m) false) l
def bbeq (a b:Bool):Bool:=ifB a b (ifB b false true)
def bnot (a:Bool):Bool:=ifB a false true
def band (a b:Bool):Bool:=ifB a b false
mutual
def vbeq:AVal→AVal→Bool
 | .bool a,.bool b=>bbeq a b
 | .int k a,.int j b=>band (kbeq k j) (ibeq a b)
 | .str a,.str b=>lbeq a b
 | .nilp,.nilp | .nilslice,.nilslice | .nilmap,.nilmap | .nilfn,.nilfn | .niliface,.niliface=>true
 | .ptr a b,.ptr c d=>band (Nat.beq a c) (Nat.beq b d)
 | .slice a b c d e,.slice a' b' c' d' e'=>band (Nat.beq a a') (band (Nat.beq b b') (band (Nat.beq c c') (band (Nat.beq d d') (bbeq e e'))))
 | .map a,.map b=>Nat.beq a b
 | .fn f a b,.fn g c d=>band (Nat.beq f g) (band (vsbeq a c) (vsbeq b d))
 | .yieldf a,.yieldf b=>Nat.beq a b
 | .capv a b,.capv c d=>band (Nat.beq a c) (Nat.beq b d)
 | .iface t a,.iface u b=>band (Nat.beq t u) (vbeq a b)
 | .agg a,.agg b=>vsbeq a b
 | .tuple a,.tuple b=>vsbeq a b
 | .sym a,.sym b=>Nat.beq a b
 | .esl a b c,.esl d e f=>band (Nat.beq a d) (band (Nat.beq b e) (Nat.beq c f))
 | .osl a x,.osl b y=>band (Nat.beq a b) (vbeq x y)
 | .psl a b c d e,.psl a' b' c' d' e'=>band (Nat.beq a a') (band (Nat.beq b b') (band (Nat.beq c c') (band (Nat.beq d d') (bbeq e e'))))
 | _,_=>false
def vsbeq:List AVal→List AVal→Bool
 | [],[]=>true
 | a::l,b::m=>band (vbeq a b) (vsbeq l m)
 | _,_=>false
end
def takeA {α:Type} (n:Nat):List α→List α:=
 Nat.rec (motive:=fun _=>List α→List α) (fun _=>[]) (fun _ ih l=>lC l [] fun a m=>a::ih m) n
def dropA {α:Type} (n:Nat):List α→List α:=
 Nat.rec (motive:=fun _=>List α→List α) (fun l=>l) (fun _ ih l=>lC l [] fun _ m=>ih m) n
def nthA {α:Type} (n:Nat):List α→Option α:=
 Nat.rec (motive:=fun _=>List α→Option α) (fun l=>lC l none fun a _=>some a) (fun _ ih l=>lC l none fun _ m=>ih m) n
def lenA {α:Type} (l:List α):Nat→Nat:=List.rec (motive:=fun _=>Nat→Nat) (fun n=>n) (fun _ _ ih n=>frc (Nat.succ n) ih) l
def appA {α:Type} (l m:List α):List α:=List.rec m (fun a _ ih=>a::ih) l
def mapA {α β:Type} (f:α→β) (l:List α):List β:=List.rec [] (fun a _ ih=>f a::ih) l
def overA (n:Nat):List AVal→List AVal→List AVal:=
 Nat.rec (motive:=fun _=>List AVal→List AVal→List AVal)
  (fun m l=>List.rec (motive:=fun _=>List AVal→List AVal) (fun l=>l) (fun a _ ih l=>lC l [] fun _ l=>a::ih l) m l)
  (fun _ ih m l=>lC l [] fun a l=>a::ih m l) n
def repA (z:List AVal) (n:Nat):List AVal:=Nat.rec [] (fun _ ih=>appA z ih) n
def allA (p:AVal→Bool) (l:List AVal):Bool:=List.rec true (fun a _ ih=>ifB (p a) ih false) l
namespace Tr
variable {α:Type}
def sets0 (l:List α):Tr α→Nat→Tr α:=
 List.rec (motive:=fun _=>Tr α→Nat→Tr α) (fun t _=>t) (fun a _ ih t i=>frc (Nat.succ i) fun j=>ih (t.set i a) j) l
def alt (l:List α):Bool→List α:=List.rec (motive:=fun _=>Bool→List α) (fun _=>[]) (fun a _ ih b=>ifB b (a::ih false) (ih true)) l
def build (f:Nat):List α→Tr α:=Nat.rec (motive:=fun _=>List α→Tr α) (fun _=>.nil) (fun _ ih l=>lC l .nil fun a m=>.node (ih (alt m true)) (some a) (ih (alt m false))) f
def ofList (l:List α):Tr α:=frc (lenA l 0) fun n=>ifB (Nat.ble n 48) (sets0 l .nil 0) (build n l)
def lft (t:Tr α):Tr α:=Tr.rec .nil (fun l _ _ _ _=>l) t
def rgt (t:Tr α):Tr α:=Tr.rec .nil (fun _ _ r _ _=>r) t
def top (t:Tr α):Option α:=Tr.rec none (fun _ v _ _ _=>v) t
def over (u:Tr α) (lo hi:Nat) (f:Nat):Tr α→Nat→Nat→Tr α:=
 Nat.rec (motive:=fun _=>Tr α→Nat→Nat→Tr α) (fun t _ _=>t)
  (fun _ ih t a s=>ifB (Nat.ble hi a) t (frc (Nat.add a s) fun b=>frc (Nat.add s s) fun q=>frc (Nat.add b s) fun c=>
   .node (ih (lft t) b q) (ifB (Nat.ble lo a) (u.get (Nat.sub a lo)) (top t)) (ih (rgt t) c q))) f
def sets (l:List α) (t:Tr α) (i:Nat):Tr α:=
 frc (lenA l 0) fun n=>ifB (Nat.ble n 48) (sets0 l t i) (frc (Nat.add i n) fun h=>over (ofList l) i h (Nat.succ h) t 0 1)
def gets0 (n:Nat):Tr α→Nat→Option (List α):=
 Nat.rec (motive:=fun _=>Tr α→Nat→Option (List α)) (fun _ _=>some [])
  (fun _ ih t i=>bnd (t.get i) fun a=>bnd (ih t (Nat.succ i)) fun l=>some (a::l)) n
def getsH (f:Nat):Nat→Tr α→Nat→Option (List α):=
 Nat.rec (motive:=fun _=>Nat→Tr α→Nat→Option (List α)) (fun n t i=>gets0 n t i)
  (fun _ ih n t i=>ifB (Nat.ble n 32) (gets0 n t i) (frc (Nat.div n 2) fun h=>frc (Nat.sub n h) fun k=>frc (Nat.add i h) fun j=>
   bnd (ih h t i) fun l=>bnd (ih k t j) fun m=>some (appA l m))) f
def gets (n:Nat) (t:Tr α) (i:Nat):Option (List α):=getsH 20 n t i
def tree (f:Nat→α) (d:Nat):Nat→Nat→Nat→Tr α:=
 Nat.rec (motive:=fun _=>Nat→Nat→Nat→Tr α) (fun _ _ _=>.nil)
  (fun _ ih a s n=>natC n .nil fun m=>frc (Nat.add a s) fun b=>frc (Nat.add s s) fun q=>frc (Nat.add b s) fun c=>
   .node (frc (Nat.div (Nat.succ m) 2) fun p=>ih b q p) (some (f a)) (frc (Nat.div m 2) fun r=>ih c q r)) d
end Tr
def byteOf (N i:Nat):Nat:=Nat.mod (Nat.shiftRight N (Nat.mul 8 i)) 256
def unp (n N:Nat):Tr AVal:=Tr.tree (fun i=>frc (byteOf N i) fun b=>.int .u8 (.ofNat b)) n 0 1 n
def packL (l:List Nat):Nat→Nat→Nat:=
 List.rec (motive:=fun _=>Nat→Nat→Nat) (fun acc _=>acc) (fun b _ ih acc k=>frc (Nat.add acc (Nat.shiftLeft b k)) fun acc=>frc (Nat.add k 8) fun k=>ih acc k) l
def subN (N o l:Nat):Nat:=Nat.mod (Nat.shiftRight N (Nat.mul 8 o)) (Nat.shiftLeft 1 (Nat.mul 8 l))
def catN (n S M:Nat):Nat:=Nat.add S (Nat.shiftLeft M (Nat.mul 8 n))
def unp0 (n:Nat):Nat→List Nat:=Nat.rec (motive:=fun _=>Nat→List Nat) (fun _=>[]) (fun _ ih N=>frc (Nat.mod N 256) fun b=>b::frc (Nat.shiftRight N 8) ih) n
def unpH (f:Nat):Nat→Nat→List Nat:=
 Nat.rec (motive:=fun _=>Nat→Nat→List Nat) (fun n N=>unp0 n N)
  (fun _ ih n N=>ifB (Nat.ble n 8) (unp0 n N) (frc (Nat.div n 2) fun h=>frc (Nat.sub n h) fun k=>appA (frc (subN N 0 h) fun L=>ih h L) (frc (Nat.shiftRight N (Nat.mul 8 h)) fun M=>ih k M))) f
def unpB (n:Nat):Nat→List Nat→List Nat:=Nat.rec (motive:=fun _=>Nat→List Nat→List Nat) (fun _ r=>r) (fun _ ih N r=>frc (Nat.mod N 256) fun b=>b::frc (Nat.shiftRight N 8) fun M=>ih M r) n
def unpA (f:Nat):Nat→Nat→List Nat→List Nat:=
 Nat.rec (motive:=fun _=>Nat→Nat→List Nat→List Nat) (fun n N r=>unpB n N r)
  (fun _ ih n N r=>ifB (Nat.ble n 8) (unpB n N r) (frc (Nat.div n 2) fun h=>frc (Nat.sub n h) fun k=>frc (subN N 0 h) fun L=>ih h L (frc (Nat.shiftRight N (Nat.mul 8 h)) fun M=>ih k M r))) f
def unpL (n N:Nat):List Nat:=unpA 20 n N []
inductive ABlk where
 | cells (t:TypeId) (n:Nat) (c:Tr AVal)
 | map (es:List (AVal×AVal×Nat)) (clock:Nat)
 | loop (st:LoopState) (pend:Option Code) (fn:FuncId) (n:Nat) (T:Tr AVal) (ps:Array Tmp) (assign body:Code)
 | siter (s:List Nat) (pos:Nat)
 | text (t:TypeId) (v:AVal)
 | pack (t:TypeId) (n N:Nat)
 | ints (t:TypeId) (v:AVal)
 | view (c:Tr AVal)
structure Row where
 t:TypeId
 n:Nat
 c:Tr AVal
structure Lp where
 st:LoopState
 pend:Option Code
 fn:FuncId
 n:Nat
 T:Tr AVal
 ps:Array Tmp
 assign:Code
 body:Code
def asRow (b:ABlk):Option Row:=ABlk.rec (fun t n c=>some ⟨t,n,c⟩) (fun _ _=>none) (fun _ _ _ _ _ _ _ _=>none) (fun _ _=>none) (fun _ _=>none) (fun t n N=>some ⟨t,n,unp n N⟩) (fun _ _=>none) (fun _=>none) b
def asMapB (b:ABlk):Option (List (AVal×AVal×Nat)×Nat):=ABlk.rec (fun _ _ _=>none) (fun es c=>some (es,c)) (fun _ _ _ _ _ _ _ _=>none) (fun _ _=>none) (fun _ _=>none) (fun _ _ _=>none) (fun _ _=>none) (fun _=>none) b
def asLoop (b:ABlk):Option Lp:=ABlk.rec (fun _ _ _=>none) (fun _ _=>none) (fun a b c d e f g h=>some ⟨a,b,c,d,e,f,g,h⟩) (fun _ _=>none) (fun _ _=>none) (fun _ _ _=>none) (fun _ _=>none) (fun _=>none) b
def asIter (b:ABlk):Option (List Nat×Nat):=ABlk.rec (fun _ _ _=>none) (fun _ _=>none) (fun _ _ _ _ _ _ _ _=>none) (fun s p=>some (s,p)) (fun _ _=>none) (fun _ _ _=>none) (fun _ _=>none) (fun _=>none) b
def Lp.blk (l:Lp):ABlk:=.loop l.st l.pend l.fn l.n l.T l.ps l.assign l.body
def asText (b:ABlk):Option (TypeId×AVal):=ABlk.rec (fun _ _ _=>none) (fun _ _=>none) (fun _ _ _ _ _ _ _ _=>none) (fun _ _=>none) (fun t v=>some (t,v)) (fun _ _ _=>none) (fun _ _=>none) (fun _=>none) b
structure Heap where
 blk:Tr ABlk
 next:Nat
inductive Spec where
 | mapsClone
 | indexByte
 | makeNoZero (e:TypeId)
 | same
 | insert
 | compare
 | count
 | fact
structure Seg where
 lo:Nat
 hi:Nat
 cid:Nat
 ai:Nat
 fi:Nat
 ci:Nat
inductive Fact where
 | bin (op:BinOp) (a b r:AVal)
 | eq (sh:Nat) (a b:AVal) (r:Bool)
 | conv (k:IntKind) (a r:AVal)
 | len (a r:AVal)
 | min (a b r:AVal)
 | max (a b r:AVal)
 | sub (a lo hi r:AVal)
 | call (f:FuncId) (args:List AVal) (r:AVal)
 | make (f:FuncId) (args:List AVal) (N n:Nat) (rows:List (Nat×ABlk)) (r:AVal)
 | at_ (a:AVal) (i:Nat) (r:AVal)
 | pack (l:List AVal) (r:AVal)
 | read (f:FuncId) (args:List AVal) (r:AVal)
 | memo (f:FuncId) (args:List AVal) (nx:Nat) (rin rout:List (Nat×ABlk)) (r:AVal) (nx':Nat)
 | num (q lo hi:Nat)
 | diff (q m r:Nat)
 | callF (g:FuncId→List AVal→Option AVal)
 | makeF (g:FuncId→List AVal→Option (Nat×Nat×List (Nat×ABlk)×AVal))
 | binF (g:BinOp→AVal→AVal→Option AVal)
 | unF (g:UnOp→AVal→Option AVal)
 | slen (a r:AVal)
 | ssub (a h r:AVal)
 | memoG (f:FuncId) (N:Nat) (segs:List Seg) (args:List AVal) (nx:Nat) (rin rout:List (Nat×ABlk)) (r:AVal) (nx':Nat)
structure Env where
 P:Program
 types:Tr TypeInfo
 funcs:Tr Func
 spec:Tr Spec
 facts:List Fact
 tabs:List (Nat×ABlk)
 alts:Tr (Nat×List (List (List Fact)))
def mkEnv (P:Program) (spec:List (FuncId×Spec)) (facts:List Fact) (tabs:List (Nat×ABlk)):Env:=
 ⟨P,Tr.ofList P.types.toList,Tr.ofList P.funcs.toList,spec.foldl (fun t p=>t.set p.1 p.2) .nil,facts,tabs,.nil⟩
def Env.plus (E:Env) (l:List Fact):Env:=⟨E.P,E.types,E.funcs,E.spec,appA l E.facts,E.tabs,.nil⟩
def tabTr (l:List (Nat×ABlk)):Tr ABlk:=List.rec .nil (fun p _ ih=>ih.set p.1 p.2) l
def descOf (T:Tr TypeInfo) (d:TypeDesc):Option TypeDesc:=
 match d with
 | .named _ u=>bnd (T.get u) fun j=>some j.desc
 | d=>some d
def Env.desc (E:Env) (t:TypeId):Option TypeDesc:=bnd (E.types.get t) fun i=>descOf E.types i.desc
def Env.size (E:Env) (t:TypeId):Option Nat:=bnd (E.types.get t) fun i=>some i.size
def aggD (d:TypeDesc):Bool:=match d with | .struct _=>true | .array _ _=>true | _=>false
def Env.isAgg (E:Env) (t:TypeId):Option Bool:=bnd (E.desc t) fun d=>some (aggD d)
def dSlice (d:TypeDesc):Option TypeId:=match d with | .slice e=>some e | _=>none
def dArray (d:TypeDesc):Option (Nat×TypeId):=match d with | .array n e=>some (n,e) | _=>none
def dStruct (d:TypeDesc):Option (List Field):=match d with | .struct fs=>some fs.toList | _=>none
def dPtr (d:TypeDesc):Option TypeId:=match d with | .pointer e=>some e | _=>none
def dInt (d:TypeDesc):Option IntKind:=match d with | .int k=>some k | _=>none
def dMap (d:TypeDesc):Option (TypeId×TypeId):=match d with | .map k e=>some (k,e) | _=>none
def dString (d:TypeDesc):Bool:=match d with | .string=>true | _=>false
def dIface (d:TypeDesc):Bool:=match d with | .interface _=>true | _=>false
def dUnsafe (d:TypeDesc):Bool:=match d with | .unsafePointer=>true | _=>false
def isU8 (k:IntKind):Bool:=Nat.beq (kcode k) 4
def isI64 (k:IntKind):Bool:=Nat.beq (kcode k) 3
def sbytes (s:ByteArray):List Nat:=mapA UInt8.toNat s.data.toList
mutual
def ofV:Nat→Value→Option AVal
 | 0,_=>none
 | _+1,.bool b=>some (.bool b)
 | _+1,.int k n=>some (.int k n)
 | _+1,.string s=>some (.str (sbytes s))
 | _+1,.pointer none=>some .nilp
 | _+1,.slice none 0 0=>some .nilslice
 | _+1,.map none=>some .nilmap
 | _+1,.nilFunc=>some .nilfn
 | _+1,.nilIface=>some .niliface
 | n+1,.agg cs=>bnd (ofVs n cs.toList) fun l=>some (.agg l)
 | n+1,.tuple cs=>bnd (ofVs n cs.toList) fun l=>some (.tuple l)
 | _+1,_=>none
def ofVs:Nat→List Value→Option (List AVal)
 | 0,_=>none
 | _+1,[]=>some []
 | n+1,v::l=>bnd (ofV n v) fun a=>bnd (ofVs n l) fun m=>some (a::m)
end
def Env.zero (E:Env) (t:TypeId):Option AVal:=bnd (E.types.get t) fun i=>bnd i.zero fun v=>ofV 5000 v
def Heap.row (H:Heap) (b:Nat):Option Row:=bnd (H.blk.get b) asRow
def asCells (b:ABlk):Option Row:=ABlk.rec (fun t n c=>some ⟨t,n,c⟩) (fun _ _=>none) (fun _ _ _ _ _ _ _ _=>none) (fun _ _=>none) (fun _ _=>none) (fun _ _ _=>none) (fun _ _=>none) (fun _=>none) b
def Heap.crow (H:Heap) (b:Nat):Option Row:=bnd (H.blk.get b) asCells
def asView (b:ABlk):Option (Tr AVal):=ABlk.rec (fun _ _ _=>none) (fun _ _=>none) (fun _ _ _ _ _ _ _ _=>none) (fun _ _=>none) (fun _ _=>none) (fun _ _ _=>none) (fun _ _=>none) (fun c=>some c) b
def Heap.load1 (H:Heap) (b off:Nat):Option AVal:=obind (H.row b) (bnd (H.blk.get b) fun k=>bnd (asView k) fun c=>c.get off) fun r=>r.c.get off
def Heap.loads (H:Heap) (b off n:Nat):Option (List AVal):=bnd (H.row b) fun r=>Tr.gets n r.c off
def Heap.put (H:Heap) (b:Nat) (r:Row) (c:Tr AVal):Heap:=⟨H.blk.set b (.cells r.t r.n c),H.next⟩
def Heap.stores (H:Heap) (b off:Nat) (l:List AVal):Option Heap:=
 bnd (H.row b) fun r=>ifB (band (Nat.ble 100 b) (band (Nat.ble (Nat.add off (lenA l 0)) r.n) (allA okCell l))) (some (H.put b r (Tr.sets l r.c off))) none
def Heap.new (H:Heap) (t:TypeId) (l:List AVal):Heap:=⟨H.blk.set H.next (.cells t (lenA l 0) (Tr.ofList l)),Nat.succ H.next⟩
structure Pk where
 t:TypeId
 n:Nat
 N:Nat
def asPack (b:ABlk):Option Pk:=ABlk.rec (fun _ _ _=>none) (fun _ _=>none) (fun _ _ _ _ _ _ _ _=>none) (fun _ _=>none) (fun _ _=>none) (fun t n N=>some ⟨t,n,N⟩) (fun _ _=>none) (fun _=>none) b
abbrev R:=Option (AVal×Heap)
def pureR (H:Heap) (v:Option AVal):R:=bnd v fun v=>some (v,H)
def newR (H:Heap) (t:TypeId) (l:List AVal) (f:Nat→AVal):R:=frc H.next fun m=>some (f m,Heap.new ⟨H.blk,m⟩ t l)
def Env.loadVar (E:Env) (H:Heap) (t:TypeId) (b off:Nat):Option AVal:=
 bnd (E.isAgg t) fun g=>ifB g (bnd (E.size t) fun n=>bnd (H.loads b off n) fun l=>some (.agg l)) (H.load1 b off)
def Env.storeVar (E:Env) (H:Heap) (t:TypeId) (b off:Nat) (v:AVal):Option Heap:=
 bnd (E.size t) fun n=>ifB (Nat.beq (lenA (acells v) 0) n) (H.stores b off (acells v)) none
def half (k:IntKind):Nat:=@IntKind.rec (fun _=>Nat) 128 32768 2147483648 9223372036854775808 256 65536 4294967296 18446744073709551616 k
def full (k:IntKind):Nat:=@IntKind.rec (fun _=>Nat) 256 65536 4294967296 18446744073709551616 256 65536 4294967296 18446744073709551616 k
def nbits (k:IntKind):Nat:=@IntKind.rec (fun _=>Nat) 8 16 32 64 8 16 32 64 k
def twos (k:IntKind) (n:Int):Nat:=intC n (fun m=>Nat.mod m (full k)) fun m=>Nat.sub (Nat.sub (full k) 1) (Nat.mod m (full k))
def back (k:IntKind) (m:Nat):Int:=ifB (Nat.blt m (half k)) (.ofNat m) (.negSucc (Nat.sub (Nat.sub (full k) 1) m))
def awrap (k:IntKind) (n:Int):Int:=back k (twos k n)
def mkInt (k:IntKind) (n:Int):AVal:=intC n (fun m=>frc m fun m=>.int k (.ofNat m)) fun m=>frc m fun m=>.int k (.negSucc m)
def mkBool (b:Bool):AVal:=ifB b (.bool true) (.bool false)
def mkNat (n:Nat):AVal:=frc n fun m=>.int .i64 (.ofNat m)
def nneg {α:Type u} (i:Int) (f:Nat→Option α):Option α:=intC i f fun _=>none
end
end
section
universe u
noncomputable section
def topV:AVal:=.str [256]
def isTop (v:AVal):Bool:=match v with | .str l=>lC l false fun a _=>Nat.beq a 256 | _=>false
def evTmp (t:Nat) (T:Tr AVal):Option AVal:=obind (T.get t) (some aundef) fun v=>ifB (isTop v) none (some v)
def evConst (v:Value) (_:Tr AVal):Option AVal:=ofV 5000 v
def evGlobal (g:Nat) (_:Tr AVal):Option AVal:=ifB (Nat.blt g 60) (some (.ptr g 0)) none
def evFunc (f:Nat) (_:Tr AVal):Option AVal:=some (.fn f [] [])
def ev (T:Tr AVal) (o:Operand):Option AVal:=@Operand.rec (fun _=>Tr AVal→Option AVal) evTmp evConst evGlobal evFunc o T
def evs (T:Tr AVal) (l:List Operand):Option (List AVal):=List.rec (some []) (fun o _ ih=>bnd (ev T o) fun a=>bnd ih fun m=>some (a::m)) l
def evParts (T:Tr AVal) (l:List (Nat×Operand)):Option (List (Nat×AVal)):=
 List.rec (some []) (fun o _ ih=>bnd (ev T o.2) fun a=>bnd ih fun m=>some ((o.1,a)::m)) l
def evO (T:Tr AVal) (o:Option Operand):Option (Option AVal):=obind o (some none) fun o=>bnd (ev T o) fun v=>some (some v)
def subNN (m n:Nat):Int:=ifB (Nat.ble n m) (.ofNat (Nat.sub m n)) (.negSucc (Nat.sub (Nat.sub n m) 1))
def ineg (a:Int):Int:=intC a (fun m=>subNN 0 m) fun m=>.ofNat (Nat.succ m)
def iadd (a b:Int):Int:=
 intC a (fun m=>intC b (fun n=>.ofNat (Nat.add m n)) fun n=>subNN m (Nat.succ n))
  fun m=>intC b (fun n=>subNN n (Nat.succ m)) fun n=>.negSucc (Nat.succ (Nat.add m n))
def isub (a b:Int):Int:=iadd a (ineg b)
def imul (a b:Int):Int:=
 intC a (fun m=>intC b (fun n=>.ofNat (Nat.mul m n)) fun n=>subNN 0 (Nat.mul m (Nat.succ n)))
  fun m=>intC b (fun n=>subNN 0 (Nat.mul (Nat.succ m) n)) fun n=>.ofNat (Nat.mul (Nat.succ m) (Nat.succ n))
def itdiv (a b:Int):Int:=
 intC a (fun m=>intC b (fun n=>.ofNat (Nat.div m n)) fun n=>subNN 0 (Nat.div m (Nat.succ n)))
  fun m=>intC b (fun n=>subNN 0 (Nat.div (Nat.succ m) n)) fun n=>.ofNat (Nat.div (Nat.succ m) (Nat.succ n))
def itmod (a b:Int):Int:=
 intC a (fun m=>intC b (fun n=>.ofNat (Nat.mod m n)) fun n=>.ofNat (Nat.mod m (Nat.succ n)))
  fun m=>intC b (fun n=>subNN 0 (Nat.mod (Nat.succ m) n)) fun n=>subNN 0 (Nat.mod (Nat.succ m) (Nat.succ n))
abbrev IOp:=IntKind→Int→IntKind→Int→Option AVal
def same (k j:IntKind) (v:AVal):Option AVal:=ifB (kbeq k j) (some v) none
def iAdd:IOp:=fun k a j b=>same k j (mkInt k (awrap k (iadd a b)))
def iSub:IOp:=fun k a j b=>same k j (mkInt k (awrap k (isub a b)))
def iMul:IOp:=fun k a j b=>same k j (mkInt k (awrap k (imul a b)))
def iQuo:IOp:=fun k a j b=>ifB (ibeq b (.ofNat 0)) none (same k j (mkInt k (awrap k (itdiv a b))))
def iRem:IOp:=fun k a j b=>ifB (ibeq b (.ofNat 0)) none (same k j (mkInt k (itmod a b)))
def iAnd:IOp:=fun k a j b=>same k j (mkInt k (back k (Nat.land (twos k a) (twos k b))))
def iOr:IOp:=fun k a j b=>same k j (mkInt k (back k (Nat.lor (twos k a) (twos k b))))
def iXor:IOp:=fun k a j b=>same k j (mkInt k (back k (Nat.xor (twos k a) (twos k b))))
def iAndNot:IOp:=fun k a j b=>same k j (mkInt k (back k (Nat.land (twos k a) (Nat.xor (twos k b) (Nat.sub (full k) 1)))))
def shN (k:IntKind) (y:Nat):Nat:=ifB (Nat.ble y (nbits k)) y (nbits k)
def iShl:IOp:=fun k a _ b=>nneg b fun y=>some (mkInt k (awrap k (imul a (.ofNat (Nat.pow 2 (shN k y))))))
def iShr:IOp:=fun k a _ b=>nneg b fun y=>some (mkInt k (intC a (fun m=>.ofNat (Nat.div m (Nat.pow 2 (shN k y)))) fun m=>.negSucc (Nat.div m (Nat.pow 2 (shN k y)))))
def iEql:IOp:=fun k a j b=>same k j (mkBool (ibeq a b))
def iNeq:IOp:=fun k a j b=>same k j (mkBool (bnot (ibeq a b)))
def iLss:IOp:=fun k a j b=>same k j (mkBool (ilt a b))
def iLeq:IOp:=fun k a j b=>same k j (mkBool (bnot (ilt b a)))
def iGtr:IOp:=fun k a j b=>same k j (mkBool (ilt b a))
def iGeq:IOp:=fun k a j b=>same k j (mkBool (bnot (ilt a b)))
def intOp (op:BinOp):IOp:=@BinOp.rec (fun _=>IOp) iAdd iSub iMul iQuo iRem iAnd iOr iXor iShl iShr iAndNot iEql iNeq iLss iLeq iGtr iGeq op
def lesB (l:List Nat):List Nat→Bool:=
 List.rec (motive:=fun _=>List Nat→Bool) (fun m=>lC m false fun _ _=>true)
  (fun a _ ih m=>lC m false fun b m=>ifB (Nat.blt a b) true (ifB (Nat.beq a b) (ih m) false)) l
abbrev SOp:=List Nat→List Nat→Option AVal
def sNone:SOp:=fun _ _=>none
def sAdd:SOp:=fun a b=>ifB (Nat.ble (lenA a (lenA b 0)) 1000000000) (some (.str (appA a b))) none
def sEql:SOp:=fun a b=>some (mkBool (lbeq a b))
def sNeq:SOp:=fun a b=>some (mkBool (bnot (lbeq a b)))
def sLss:SOp:=fun a b=>some (mkBool (lesB a b))
def sLeq:SOp:=fun a b=>some (mkBool (bnot (lesB b a)))
def sGtr:SOp:=fun a b=>some (mkBool (lesB b a))
def sGeq:SOp:=fun a b=>some (mkBool (bnot (lesB a b)))
def strOp (op:BinOp):SOp:=@BinOp.rec (fun _=>SOp) sAdd sNone sNone sNone sNone sNone sNone sNone sNone sNone sNone sEql sNeq sLss sLeq sGtr sGeq op
def opCode (op:BinOp):Nat:=@BinOp.rec (fun _=>Nat) 0 1 2 3 4 5 6 7 8 9 10 11 12 13 14 15 16 op
def findF {α:Type} (p:Fact→Option α) (l:List Fact):Option α:=List.rec none (fun f _ ih=>obind (p f) ih some) l
def mBin (op:BinOp) (a b:AVal) (f:Fact):Option AVal:=match f with | .bin o x y r=>ifB (band (Nat.beq (opCode op) (opCode o)) (band (vbeq a x) (vbeq b y))) (some r) none | .binF g=>g op a b | _=>none
def mUn (op:UnOp) (a:AVal) (f:Fact):Option AVal:=match f with | .unF g=>g op a | _=>none
def mEq (sh:Nat) (a b:AVal) (f:Fact):Option Bool:=match f with | .eq h x y r=>ifB (band (Nat.beq sh h) (band (vbeq a x) (vbeq b y))) (some r) none | _=>none
def mConv (k:IntKind) (a:AVal) (f:Fact):Option AVal:=match f with | .conv j x r=>ifB (band (kbeq k j) (vbeq a x)) (some r) none | _=>none
def mLen (a:AVal) (f:Fact):Option AVal:=match f with | .len x r=>ifB (vbeq a x) (some r) none | _=>none
def mMin (a b:AVal) (f:Fact):Option AVal:=match f with | .min x y r=>ifB (band (vbeq a x) (vbeq b y)) (some r) none | _=>none
def mMax (a b:AVal) (f:Fact):Option AVal:=match f with | .max x y r=>ifB (band (vbeq a x) (vbeq b y)) (some r) none | _=>none
def mSub (a l h:AVal) (f:Fact):Option AVal:=match f with | .sub x y z r=>ifB (band (vbeq a x) (band (vbeq l y) (vbeq h z))) (some r) none | _=>none
def mSlen (a:AVal) (f:Fact):Option AVal:=match f with | .slen x r=>ifB (vbeq a x) (some r) none | _=>none
def mSsub (a h:AVal) (f:Fact):Option AVal:=match f with | .ssub x y r=>ifB (band (vbeq a x) (vbeq h y)) (some r) none | _=>none
def mCall (g:FuncId) (as:List AVal) (f:Fact):Option AVal:=match f with | .call h bs r=>ifB (band (Nat.beq g h) (vsbeq as bs)) (some r) none | .callF p=>p g as | _=>none
def mAt (a:AVal) (i:Nat) (f:Fact):Option AVal:=match f with | .at_ x j r=>ifB (band (vbeq a x) (Nat.beq i j)) (some r) none | _=>none
def mPack (l:List AVal) (f:Fact):Option AVal:=match f with | .pack m r=>ifB (vsbeq l m) (some r) none | _=>none
def shapeOf (d:TypeDesc):Option Nat:=match d with | .int _=>some 1 | .string=>some 2 | .bool=>some 3 | _=>none
def symEq (E:Env) (t:TypeId) (a b:AVal):Option Bool:=bnd (E.desc t) fun d=>bnd (shapeOf d) fun sh=>findF (mEq sh a b) E.facts
def Env.apart (E:Env) (t:TypeId) (cs:List AVal) (off:Nat):Option AVal:=
 bnd (E.isAgg t) fun g=>ifB g (bnd (E.size t) fun n=>some (.agg (takeA n (dropA off cs)))) (nthA off cs)
mutual
def aequal (E : Env) (H : Heap) : Nat → TypeId → AVal → AVal → Option Bool
  | 0, _, _, _ => none
  | f + 1, t, x, y => ifB (band (bnot (isSym x)) (bnot (isSym y)))
   (match E.desc t, x, y with
    | some .bool, .bool a, .bool b => some (bbeq a b)
    | some (.int _), .int k a, .int j b => match kbeq k j with | true => some (ibeq a b) | false => none
    | some .string, .str a, .str b => some (lbeq a b)
    | some (.pointer _), .nilp, .nilp => some true
    | some (.pointer _), .nilp, .ptr _ _ => some false
    | some (.pointer _), .ptr _ _, .nilp => some false
    | some (.pointer e), .ptr a i, .ptr b j =>
      match E.size e with
      | none => none
      | some 0 => none
      | some (_ + 1) =>
        match H.row a, H.row b with
        | some _, some _ => match Nat.beq a b with | true => some (Nat.beq i j) | false => none
        | _, _ => none
    | some (.map _ _), .nilmap, .nilmap => some true
    | some (.map _ _), .nilmap, .map _ => some false
    | some (.map _ _), .map _, .nilmap => some false
    | some (.slice _), .nilslice, .nilslice => some true
    | some (.slice _), .nilslice, .slice _ _ _ _ _ => some false
    | some (.slice _), .slice _ _ _ _ _, .nilslice => some false
    | some (.slice _), .nilslice, .esl _ _ _ => some false
    | some (.slice _), .esl _ _ _, .nilslice => some false
    | some (.slice _), .nilslice, .osl _ _ => some false
    | some (.slice _), .osl _ _, .nilslice => some false
    | some (.slice _), .nilslice, .psl _ _ _ _ _ => some false
    | some (.slice _), .psl _ _ _ _ _, .nilslice => some false
    | some (.func _ _ _), .nilfn, .nilfn => some true
    | some (.func _ _ _), .nilfn, .fn _ _ _ => some false
    | some (.func _ _ _), .fn _ _ _, .nilfn => some false
    | some (.interface _), .niliface, .niliface => some true
    | some (.interface _), .niliface, .iface _ _ => some false
    | some (.interface _), .iface _ _, .niliface => some false
    | some (.interface _), .iface ta va, .iface tb vb =>
      match Nat.beq ta tb with
      | false => some false
      | true =>
        match E.types.get ta with
        | none => none
        | some i => match i.comparable with | true => aequal E H f ta va vb | false => none
    | some (.struct fs), .agg xs, .agg ys => match E.P.stoodInHeld t with | true => none | false => aeqFields E H f fs.toList xs ys
    | some (.array n e), .agg xs, .agg ys =>
      match E.size e with
      | none => none
      | some s => aeqElems E H f e s (List.range n) xs ys
    | _, _, _ => none) (symEq E t x y)
def aeqFields (E:Env) (H:Heap):Nat→List Field→List AVal→List AVal→Option Bool
 | 0,_,_,_=>none
 | _+1,[],_,_=>some true
 | f+1,d::ds,xs,ys=>
  ifB (d.name == "_") none (bnd (E.apart d.type xs d.offset) fun a=>bnd (E.apart d.type ys d.offset) fun b=>
   bnd (aequal E H f d.type a b) fun r=>ifB r (aeqFields E H f ds xs ys) (some false))
def aeqElems (E:Env) (H:Heap):Nat→TypeId→Nat→List Nat→List AVal→List AVal→Option Bool
 | 0,_,_,_,_,_=>none
 | _+1,_,_,[],_,_=>some true
 | f+1,e,s,i::is,xs,ys=>
  bnd (E.apart e xs (Nat.mul i s)) fun a=>bnd (E.apart e ys (Nat.mul i s)) fun b=>
   bnd (aequal E H f e a b) fun r=>ifB r (aeqElems E H f e s is xs ys) (some false)
end
def isConst (o:Operand):Bool:=match o with | .const _=>true | _=>false
def eqGuardOk (E:Env) (t:TypeId) (x y:Operand) (a:AVal):Bool:=
 match a with
 | .niliface=>ifB (isConst x) true (isConst y)
 | .agg _=>bnot (E.P.eqGuardType E.P.depth t)
 | _=>true
def eqOp (E:Env) (H:Heap) (t:TypeId) (x y:Operand) (a b:AVal) (f:Bool→Bool):Option AVal:=
 ifB (eqGuardOk E t x y a) (bnd (aequal E H 10000 t a b) fun r=>some (mkBool (f r))) none
def eqlOf (op:BinOp):Option (Bool→Bool):=match op with | .eql=>some (fun b=>b) | .neq=>some bnot | _=>none
def isGtr (op:BinOp):Bool:=match op with | .gtr=>true | _=>false
def capOp (op:BinOp) (m:Int) (b:AVal):Option AVal:=
 match b with
 | .capv _ c=>ifB (isGtr op) (nneg m fun m=>ifB (Nat.ble m c) (some (.bool false)) none) none
 | _=>none
def abinX (E:Env) (H:Heap) (op:BinOp) (t:TypeId) (x y:Operand) (a b:AVal):Option AVal:=
 bnd (eqlOf op) fun f=>eqOp E H t x y a b f
def abinS (E:Env) (H:Heap) (op:BinOp) (t:TypeId) (x y:Operand) (a b:AVal):Option AVal:=
 obind (asStr a) (abinX E H op t x y a b) fun m=>bnd (asStr b) fun n=>strOp op m n
def abinC (op:BinOp) (k:IntKind) (m:Int) (b:AVal):Option AVal:=ifB (isI64 k) (capOp op m b) none
def symBin (E:Env) (op:BinOp) (t:TypeId) (a b:AVal):Option AVal:=
 obind (findF (mBin op a b) E.facts) (bnd (eqlOf op) fun f=>bnd (symEq E t a b) fun r=>some (mkBool (f r))) some
def abin (E : Env) (H : Heap) (op : BinOp) (t : TypeId) (x y : Operand) (a b : AVal) : Option AVal := ifB (band (bnot (isSym a)) (bnot (isSym b)))
 (  obind (asInt a) (abinS E H op t x y a b) fun p => obind (asInt b) (abinC op p.1 p.2 b) fun q => intOp op p.1 p.2 q.1 q.2) (symBin E op t a b)
def inB {α:Type u} (i:Int) (n:Nat) (f:Nat→Option α):Option α:=intC i (fun m=>ifB (Nat.blt m n) (f m) none) fun _=>none
def inBle {α:Type u} (v:Option AVal) (dflt most:Nat) (f:Nat→Option α):Option α:=
 obind v (f dflt) fun v=>bnd (asIdx v) fun i=>nneg i fun m=>ifB (Nat.ble m most) (f m) none
def byteOfA (v:AVal):Option Nat:=bnd (asInt v) fun p=>ifB (isU8 p.1) (nneg p.2 fun n=>some (Nat.mod n 256)) none
def bytesRev (p:AVal→Option Nat) (l:List AVal):List Nat→Option (List Nat):=List.rec (motive:=fun _=>List Nat→Option (List Nat)) (fun acc=>some acc) (fun v _ ih acc=>bnd (p v) fun b=>ih (b::acc)) l
def revA (l:List Nat):List Nat→List Nat:=List.rec (motive:=fun _=>List Nat→List Nat) (fun acc=>acc) (fun a _ ih acc=>frc 0 fun _=>ih (a::acc)) l
def bytesOfP (p:AVal→Option Nat) (l:List AVal):Option (List Nat):=bnd (bytesRev p l []) fun r=>some (revA r [])
def bytesOfA (l:List AVal):Option (List Nat):=bytesOfP byteOfA l
def u8 (b:Nat):AVal:=.int .u8 (.ofNat b)
def symSub (E:Env) (x:AVal) (lo hi mx:Option AVal):Option AVal:=
 obind mx (obind hi none fun h=>obind lo (findF (mSub x (.int .i64 (.ofNat 0)) h) E.facts) fun l=>findF (mSub x l h) E.facts) fun _=>none
def sliceStr (s:List Nat) (lo hi mx:Option AVal):Option AVal:=
 obind mx (inBle hi (lenA s 0) (lenA s 0) fun h=>inBle lo 0 h fun l=>some (.str (dropA l (takeA h s)))) fun _=>none
def mkSl (b off h l m sz:Nat) (ex:Bool):Option AVal:=
 ifB (Nat.beq m l)
  (ifB ex (some (.slice b off (Nat.sub h l) (Nat.sub m l) true)) (frc (Nat.add off (Nat.mul l sz)) fun o=>some (.esl b off o)))
  (frc (Nat.add off (Nat.mul l sz)) fun o=>frc (Nat.sub h l) fun n=>frc (Nat.sub m l) fun c=>some (.slice b o n c ex))
def sliceSl (s:Sl) (sz:Nat) (lo hi mx:Option AVal):Option AVal:=
 inBle mx s.cap s.cap fun m=>inBle hi s.len m fun h=>inBle lo 0 h fun l=>mkSl s.b s.off h l m sz (obind mx s.ex fun _=>true)
def sliceNil (lo hi mx:Option AVal):Option AVal:=
 inBle mx 0 0 fun m=>inBle hi 0 m fun h=>inBle lo 0 h fun _=>some .nilslice
def sliceArr (n sz b off:Nat) (lo hi mx:Option AVal):Option AVal:=
 inBle mx n n fun m=>inBle hi n m fun h=>inBle lo 0 h fun l=>mkSl b off h l m sz true
def isZ (o:Option AVal):Bool:=obind o true fun v=>obind (asIdx v) false fun i=>ibeq i (.ofNat 0)
def sliceOsl (b:Nat) (v:AVal) (lo hi mx:Option AVal):Option AVal:=
 ifB (isZ lo) (obind mx (obind hi (some (.osl b v)) fun _=>none) fun _=>obind hi none fun _=>ifB (band (isZ mx) (isZ hi)) (some (.slice b 0 0 0 true)) none) none
def asSym (v:AVal):Option Nat:=match v with | .sym i=>some i | _=>none
def mNum (q:Nat) (f:Fact):Option (Nat×Nat):=match f with | .num p lo hi=>ifB (Nat.beq q p) (some (lo,hi)) none | _=>none
def mDiff (q m:Nat) (f:Fact):Option Nat:=match f with | .diff p k r=>ifB (band (Nat.beq q p) (Nat.beq m k)) (some r) none | _=>none
def slicePre (E:Env) (s:Sl) (lo hi mx:Option AVal):Option AVal:=
 obind mx (bnd hi fun h=>bnd (asSym h) fun q=>bnd (findF (mNum q) E.facts) fun n=>ifB (band (isZ lo) (band (Nat.blt 0 s.cap) (Nat.ble n.2 s.cap))) (some (.psl s.b s.off q s.cap s.ex)) none) fun _=>none
def slicePsl (E:Env) (p:Psl) (sz:Nat) (lo hi mx:Option AVal):Option AVal:=
 obind mx
  (obind hi
   (ifB (band (isZ lo) (Nat.blt 0 p.c)) (some (.psl p.b p.o p.q p.c p.ex))
    (bnd lo fun l=>bnd (asIdx l) fun i=>nneg i fun m=>bnd (findF (mNum p.q) E.facts) fun n=>ifB (band (Nat.blt m p.c) (Nat.ble m n.1))
     (bnd (findF (mDiff p.q m) E.facts) fun q=>frc (Nat.add p.o (Nat.mul m sz)) fun o=>frc (Nat.sub p.c m) fun c=>some (.psl p.b o q c p.ex)) none))
   fun h=>inBle (some h) 0 p.c fun k=>inBle lo 0 k fun l=>mkSl p.b p.o k l p.c sz p.ex)
  fun _=>none
def sliceSym (E:Env) (x:AVal) (lo hi mx:Option AVal):Option AVal:=
 obind mx (ifB (isZ lo) (bnd hi fun h=>findF (mSsub x h) E.facts) none) fun _=>none
def asliceD (E:Env) (t:TypeId) (x:AVal) (lo hi mx:Option AVal):Option AVal:=
 bnd (E.desc t) fun d=>
  obind (dSlice d)
   (obind (dArray d)
    (ifB (dString d) (obind (asStr x) (symSub E x lo hi mx) fun s=>sliceStr s lo hi mx) none)
    fun q=>bnd (E.size q.2) fun sz=>bnd (asPtr x) fun p=>sliceArr q.1 sz p.1 p.2 lo hi mx)
   fun e=>bnd (E.size e) fun sz=>obind (asSl x) (ifB (isNilSl x) (sliceNil lo hi mx) (obind (asOsl x) (obind (asPsl x) (sliceSym E x lo hi mx) fun p=>slicePsl E p sz lo hi mx) fun p=>sliceOsl p.1 p.2 lo hi mx)) fun s=>obind (bnd hi asSym) (sliceSl s sz lo hi mx) fun _=>slicePre E s lo hi mx
def okMx (hi mx:Option AVal):Bool:=obind mx true fun _=>obind hi false fun _=>true
def aslice (E:Env) (t:TypeId) (x:AVal) (lo hi mx:Option AVal):Option AVal:=
 ifB (okMx hi mx) (asliceD E t x lo hi mx) none
def srcCells (H:Heap) (sz:Nat) (x:AVal):Option (Nat×List AVal):=
 obind (asSl x)
  (obind (asStr x) (ifB (isNilSl x) (some (0,[])) none) fun s=>some (lenA s 0,mapA u8 s))
  fun s=>bnd (H.loads s.b s.off (Nat.mul s.len sz)) fun l=>some (s.len,l)
def roomy (n bytes:Nat):Bool:=band (Nat.ble (Nat.mul n bytes) 1000000000) (Nat.ble n 1000000000)
def appNew (H:Heap) (e:TypeId) (n:Nat) (l:List AVal):R:=ifB (allA okCell l) (frc n fun n=>newR H e l fun m=>.slice m 0 n n false) none
def appGrow0 (H:Heap) (e:TypeId) (sz:Nat) (s:Sl) (n:Nat) (new:List AVal):R:=
 bnd (H.row s.b) fun r=>bnd (Tr.gets (Nat.mul s.len sz) r.c s.off) fun old=>
  ifB s.ex (appNew H e (Nat.add s.len n) (appA old new))
   (ifB (band (Nat.ble 100 s.b) (band (Nat.beq r.t e) (band (Nat.beq (Nat.mod s.off sz) 0) (Nat.beq (Nat.add s.off (Nat.mul s.cap sz)) r.n)))) (appNew ⟨H.blk.del s.b,H.next⟩ e (Nat.add s.len n) (appA old new)) none)
def tight (t:Tr AVal):Nat→Bool:=
 Tr.rec (motive:=fun _=>Nat→Bool) (fun n=>Nat.beq n 0)
  (fun _ v _ il ir n=>natC n false fun m=>obind v false fun a=>ifB (okCell a) (frc (Nat.div (Nat.succ m) 2) fun p=>frc (Nat.div m 2) fun q=>ifB (il p) (ir q) false) false) t
def appFast (H:Heap) (e:TypeId) (n N:Nat) (c:Tr AVal) (new:List AVal):R:=
 ifB (allA okCell new) (frc n fun n=>frc H.next fun m=>frc (Nat.add N (lenA new 0)) fun k=>some (.slice m 0 n n false,⟨H.blk.set m (.cells e k (Tr.sets new c N)),Nat.succ m⟩)) none
def appGrow (H:Heap) (e:TypeId) (sz:Nat) (s:Sl) (n:Nat) (new:List AVal):R:=
 bnd (H.row s.b) fun r=>frc (Nat.mul s.len sz) fun N=>ifB (band (Nat.beq s.off 0) (tight r.c N))
  (ifB s.ex (appFast H e (Nat.add s.len n) N r.c new)
   (ifB (band (Nat.ble 100 s.b) (band (Nat.beq r.t e) (band (Nat.beq (Nat.mod s.off sz) 0) (Nat.beq (Nat.add s.off (Nat.mul s.cap sz)) r.n)))) (appFast ⟨H.blk.del s.b,H.next⟩ e (Nat.add s.len n) N r.c new) none))
  (appGrow0 H e sz s n new)
def appIn (H:Heap) (sz:Nat) (s:Sl) (n:Nat) (new:List AVal):R:=
 bnd (H.stores s.b (Nat.add s.off (Nat.mul s.len sz)) new) fun H'=>frc (Nat.add s.len n) fun m=>some (.slice s.b s.off m s.cap s.ex,H')
def zeroFits (E:Env) (e:TypeId) (sz:Nat):Bool:=obind (E.zero e) false fun z=>Nat.beq (lenA (acells z) 0) sz
def appTo0 (E:Env) (H:Heap) (e:TypeId) (i:TypeInfo) (s:AVal) (n:Nat) (new:List AVal):R:=
 obind (asSl s)
  (ifB (isNilSl s) (natC n (some (.nilslice,H)) fun _=>ifB (band (zeroFits E e i.size) (roomy n i.bytes)) (appNew H e n new) none) none)
  fun q=>ifB (Nat.ble (Nat.add q.len n) q.cap) (appIn H i.size q n new)
   (ifB (band (zeroFits E e i.size) (roomy (Nat.add q.len n) i.bytes)) (appGrow0 H e i.size q n new) none)
def appTo (E:Env) (H:Heap) (e:TypeId) (i:TypeInfo) (s:AVal) (n:Nat) (new:List AVal):R:=
 obind (asSl s)
  (ifB (isNilSl s) (natC n (some (.nilslice,H)) fun _=>ifB (band (zeroFits E e i.size) (roomy n i.bytes)) (appNew H e n new) none) none)
  fun q=>ifB (Nat.ble (Nat.add q.len n) q.cap) (appIn H i.size q n new)
   (ifB (band (zeroFits E e i.size) (roomy (Nat.add q.len n) i.bytes)) (appGrow H e i.size q n new) none)
def isInt (d:TypeDesc):Bool:=match d with | .int _=>true | _=>false
def appN (E:Env) (e:TypeId) (i:TypeInfo) (x:AVal):Option (Nat×List AVal):=
 bnd (asInt x) fun q=>ifB (isI64 q.1) (nneg q.2 fun n=>ifB (roomy n i.bytes)
  (bnd (E.zero e) fun z=>ifB (Nat.beq (lenA (acells z) 0) i.size) (some (n,repA (acells z) n)) none) none) none
def byteOfX (v:AVal):Option Nat:=bnd (asInt v) fun p=>ifB (isU8 p.1) (nneg p.2 fun n=>ifB (Nat.blt n 256) (some n) none) none
def bytesOfX (l:List AVal):Option (List Nat):=bytesOfP byteOfX l
def pkL (H:Heap) (q:Sl):Option (List Nat):=
 bnd (H.blk.get q.b) fun b=>bnd (asPack b) fun p=>ifB (Nat.ble (Nat.add q.off q.len) p.n) (frc (subN p.N q.off q.len) fun N=>some (unpL q.len N)) none
def textOf (E:Env) (H:Heap) (x:AVal):Option AVal:=
 obind (asOsl x)
  (obind (asSl x)
   (ifB (isNilSl x) (some (.str [])) (ifB (isSym x) (bnd (findF (mLen x) E.facts) fun _=>some x) (bnd (asStr x) fun _=>some x)))
   fun s=>obind (pkL H s) (ifB (Nat.beq s.len 0) (some (.str [])) (bnd (H.loads s.b s.off s.len) fun cs=>obind (bytesOfX cs) (findF (mPack cs) E.facts) fun l=>some (.str l))) fun l=>some (.str l))
  fun p=>bnd (H.blk.get p.1) fun b=>bnd (asText b) fun q=>ifB (vbeq q.2 p.2) (some p.2) none
def isEmptyS (v:AVal):Bool:=obind (asStr v) false fun s=>lC s true fun _ _=>false
def catV (E:Env) (a b:AVal):Option AVal:=
 ifB (isEmptyS a) (some b) (obind (asStr a) (findF (mBin .add a b) E.facts) fun s=>obind (asStr b) (findF (mBin .add a b) E.facts) fun t=>some (.str (appA s t)))
def someV (E:Env) (v:AVal):Bool:=obind (asStr v) (obind (findF (mEq 2 v (.str [])) E.facts) false bnot) fun s=>lC s false fun _ _=>true
def roomyV (E:Env) (v:AVal):Bool:=
 obind (asStr v) (obind (findF (mLen v) E.facts) false fun l=>obind (asInt l) (obind (findF (mBin .gtr l (.int .i64 (.ofNat 1000000000))) E.facts) false fun r=>obind (asBool r) false bnot) fun p=>bnot (ilt (.ofNat 1000000000) p.2)) fun s=>Nat.ble (lenA s 0) 1000000000
def putT (H:Heap) (e:TypeId) (c:AVal):R:=frc H.next fun m=>some (.osl m c,⟨H.blk.set m (.text e c),Nat.succ m⟩)
def dropDst (H:Heap) (e:TypeId) (s:AVal):Option Heap:=
 obind (asOsl s)
  (obind (asSl s) (ifB (isNilSl s) (some H) none)
   fun q=>ifB q.ex (ifB (Nat.beq q.len q.cap) (some H) none)
    (bnd (H.row q.b) fun r=>ifB (band (Nat.ble 100 q.b) (band (Nat.beq r.t e) (band (Nat.beq q.off 0) (Nat.beq q.cap r.n)))) (some ⟨H.blk.del q.b,H.next⟩) none))
  fun p=>bnd (H.blk.get p.1) fun b=>bnd (asText b) fun q=>ifB (band (Nat.ble 100 p.1) (Nat.beq q.1 e)) (some ⟨H.blk.del p.1,H.next⟩) none
def appT (E:Env) (H:Heap) (e:TypeId) (s x:AVal):R:=
 bnd (E.desc e) fun d=>bnd (dInt d) fun k=>bnd (E.types.get e) fun i=>ifB (band (isU8 k) (band (Nat.beq i.size 1) (band (Nat.beq i.bytes 1) (zeroFits E e 1))))
  (bnd (textOf E H s) fun a=>bnd (textOf E H x) fun b=>bnd (dropDst H e s) fun H'=>ifB (isEmptyS b) (some (s,H))
   (ifB (someV E b) (bnd (catV E a b) fun c=>ifB (roomyV E c) (putT H' e c) none) none)) none
def asInts (b:ABlk):Option (TypeId×AVal):=ABlk.rec (fun _ _ _=>none) (fun _ _=>none) (fun _ _ _ _ _ _ _ _=>none) (fun _ _=>none) (fun _ _=>none) (fun _ _ _=>none) (fun t v=>some (t,v)) (fun _=>none) b
def roomyI (E:Env) (v:AVal):Bool:=
 obind (asStr v) (obind (findF (mLen v) E.facts) false fun l=>obind (findF (mBin .gtr l (.int .i64 (.ofNat 100000000))) E.facts) false fun r=>obind (asBool r) false bnot) fun s=>Nat.ble (lenA s 0) 100000000
def putI (H:Heap) (e:TypeId) (c:AVal):R:=frc H.next fun m=>some (.osl m c,⟨H.blk.set m (.ints e c),Nat.succ m⟩)
def appI (E:Env) (H:Heap) (e:TypeId) (s x:AVal):R:=
 bnd (E.desc e) fun d=>bnd (dInt d) fun k=>bnd (E.types.get e) fun i=>ifB (band (isI64 k) (band (Nat.beq i.size 1) (band (Nat.ble i.bytes 8) (zeroFits E e 1))))
  (bnd (asSl s) fun q=>ifB (band q.ex (Nat.beq q.cap 0)) (bnd (asOsl x) fun p=>bnd (H.blk.get p.1) fun b=>bnd (asInts b) fun r=>
   ifB (band (vbeq r.2 p.2) (band (someV E p.2) (roomyI E p.2))) (putI H e p.2) none) none) none
def isText (_:Heap) (x:AVal):Bool:=ifB (isSym x) true (obind (asOsl x) false fun _=>true)
def aappend00 (E:Env) (H:Heap) (sT xT:TypeId) (s x:AVal):R:=
 bnd (E.desc sT) fun d=>bnd (dSlice d) fun e=>bnd (E.desc xT) fun xd=>
  (bnd (E.types.get e) fun i=>bnd (ifB (isInt xd) (appN E e i x) (srcCells H i.size x)) fun p=>ifB (Nat.beq (lenA p.2 0) (Nat.mul p.1 i.size)) (appTo0 E H e i s p.1 p.2) none)
def aappend0 (E:Env) (H:Heap) (sT xT:TypeId) (s x:AVal):R:=
 bnd (E.desc sT) fun d=>bnd (dSlice d) fun e=>bnd (E.desc xT) fun xd=>
  (bnd (E.types.get e) fun i=>bnd (ifB (isInt xd) (appN E e i x) (srcCells H i.size x)) fun p=>ifB (Nat.beq (lenA p.2 0) (Nat.mul p.1 i.size)) (appTo E H e i s p.1 p.2) none)
def pvS (H:Heap) (q:Sl):Option (Nat×Nat):=
 bnd (H.blk.get q.b) fun b=>obind (asPack b)
  (bnd (H.loads q.b q.off q.len) fun l=>bnd (bytesOfX l) fun bs=>some (q.len,packL bs 0 0))
  fun p=>ifB (Nat.ble (Nat.add q.off q.len) p.n) (some (q.len,subN p.N q.off q.len)) none
def pv (H:Heap) (x:AVal):Option (Nat×Nat):=
 obind (asSl x) (ifB (isNilSl x) (some (0,0)) (bnd (asStr x) fun s=>some (lenA s 0,packL s 0 0))) fun q=>pvS H q
def packNew (H:Heap) (e:TypeId) (n N:Nat):R:=frc n fun n=>frc N fun N=>frc H.next fun m=>some (.slice m 0 n n false,⟨H.blk.set m (.pack e n N),Nat.succ m⟩)
def packIn (H:Heap) (q:Sl) (m M:Nat):R:=
 bnd (H.blk.get q.b) fun b=>bnd (asPack b) fun p=>frc (Nat.add q.off q.len) fun o=>ifB (band (Nat.ble 100 q.b) (Nat.ble (Nat.add o m) p.n))
  (frc (catN o (subN p.N 0 o) (catN m M (Nat.shiftRight p.N (Nat.mul 8 (Nat.add o m))))) fun N=>frc (Nat.add q.len m) fun l=>some (.slice q.b q.off l q.cap q.ex,⟨H.blk.set q.b (.pack p.t p.n N),H.next⟩)) none
def packTo (H : Heap) (e : TypeId) (s : AVal) (p : Nat × Nat) : R :=
    obind (asSl s) (ifB (isNilSl s) (natC p.1 none fun _ => ifB (roomy p.1 1) (packNew H e p.1 p.2) none) none)
      fun q => ifB (Nat.ble (Nat.add q.len p.1) q.cap) (packIn H q p.1 p.2)
        (ifB (roomy (Nat.add q.len p.1) 1) (bnd (pvS H q) fun a => frc (catN q.len a.2 p.2) fun N => ifB q.ex (packNew H e (Nat.add q.len p.1) N)
          (bnd (H.row q.b) fun r => ifB (band (Nat.ble 100 q.b) (band (Nat.beq r.t e) (Nat.beq (Nat.add q.off q.cap) r.n))) (packNew ⟨H.blk.del q.b, H.next⟩ e (Nat.add q.len p.1) N) none)) none)
def pvN (E:Env) (e:TypeId) (x:AVal):Option (Nat×Nat):=
 bnd (asInt x) fun q=>ifB (isI64 q.1) (nneg q.2 fun n=>ifB (roomy n 1) (bnd (E.zero e) fun z=>ifB (vbeq z (u8 0)) (some (n,0)) none) none) none
def packApp (E:Env) (H:Heap) (sT xT:TypeId) (s x:AVal):R:=
 bnd (E.desc sT) fun d=>bnd (dSlice d) fun e=>bnd (E.desc xT) fun xd=>bnd (E.types.get e) fun i=>bnd (E.desc e) fun ed=>bnd (dInt ed) fun k=>
  ifB (band (isU8 k) (band (Nat.beq i.size 1) (band (Nat.beq i.bytes 1) (zeroFits E e 1)))) (bnd (ifB (isInt xd) (pvN E e x) (pv H x)) fun p=>packTo H e s p) none
def aappend (E:Env) (H:Heap) (sT xT:TypeId) (s x:AVal):R:=
 ifB (band (bnot (isText H s)) (bnot (isText H x))) (obind (packApp E H sT xT s x) (aappend0 E H sT xT s x) some)
  (bnd (E.desc sT) fun d=>bnd (dSlice d) fun e=>bnd (E.desc xT) fun xd=>ifB (isInt xd) none (obind (appT E H e s x) (appI E H e s x) some))
def minN (a b:Nat):Nat:=ifB (Nat.ble a b) a b
def acopy (E:Env) (H:Heap) (dT:TypeId) (d x:AVal):R:=
 bnd (E.desc dT) fun t=>bnd (dSlice t) fun e=>bnd (E.size e) fun sz=>bnd (srcCells H sz x) fun p=>
  ifB (Nat.beq (lenA p.2 0) (Nat.mul p.1 sz)) (obind (asSl d) (ifB (isNilSl d) (some (mkNat 0,H)) none) fun q=>
   bnd (H.stores q.b q.off (takeA (Nat.mul (minN p.1 q.len) sz) p.2)) fun H'=>some (mkNat (minN p.1 q.len),H')) none
def lenMap (H:Heap) (x:AVal):Option AVal:=bnd (asMap x) fun r=>bnd (H.blk.get r) fun b=>bnd (asMapB b) fun m=>some (mkNat (lenA m.1 0))
def isNilMap (v:AVal):Bool:=match v with | .nilmap=>true | _=>false
def lenX (E:Env) (H:Heap) (d:TypeDesc) (x:AVal):Option AVal:=
 obind (dArray d)
  (obind (dMap d) (bnd (dPtr d) fun a=>bnd (E.desc a) fun d=>bnd (dArray d) fun q=>some (mkNat q.1))
   fun _=>ifB (isNilMap x) (some (mkNat 0)) (lenMap H x))
  fun q=>some (mkNat q.1)
def alen (E:Env) (H:Heap) (t:TypeId) (x:AVal):Option AVal:=
 bnd (E.desc t) fun d=>obind (dSlice d) (ifB (dString d) (obind (asStr x) (findF (mLen x) E.facts) fun s=>some (mkNat (lenA s 0))) (lenX E H d x))
  fun _=>obind (asSl x) (ifB (isNilSl x) (some (mkNat 0)) (ifB (isEsl x) (some (mkNat 0)) (obind (asOsl x) (obind (asPsl x) (findF (mSlen x) E.facts) fun p=>some (.sym p.q)) fun p=>obind (asStr p.2) (findF (mLen p.2) E.facts) fun s=>some (mkNat (lenA s 0))))) fun s=>some (mkNat s.len)
def acap (E:Env) (t:TypeId) (x:AVal):Option AVal:=
 bnd (E.desc t) fun d=>bnd (dSlice d) fun _=>obind (asSl x) (ifB (isNilSl x) (some (mkNat 0)) none) fun s=>some (ifB s.ex (mkNat s.cap) (.capv s.b s.cap))
def amin (l:List AVal):AVal→Option AVal:=
 List.rec (motive:=fun _=>AVal→Option AVal) some
  (fun b _ ih a=>bnd (asInt a) fun p=>bnd (asInt b) fun q=>ih (.int p.1 (ifB (ilt q.2 p.2) q.2 p.2))) l
def amax (l:List AVal):AVal→Option AVal:=
 List.rec (motive:=fun _=>AVal→Option AVal) some
  (fun b _ ih a=>bnd (asInt a) fun p=>bnd (asInt b) fun q=>ih (.int p.1 (ifB (ilt p.2 q.2) q.2 p.2))) l
def aclear (E:Env) (H:Heap) (t:TypeId) (x:AVal):R:=
 bnd (E.desc t) fun d=>bnd (dSlice d) fun e=>obind (asSl x) (ifB (isNilSl x) (some (aundef,H)) none) fun q=>
  natC q.len (some (aundef,H)) fun _=>bnd (E.zero e) fun z=>bnd (H.stores q.b q.off (repA (acells z) q.len)) fun H'=>some (aundef,H')
def aSliceData (H:Heap) (x:AVal):R:=
 obind (asSl x) (ifB (isNilSl x) (some (.nilp,H)) none) fun s=>natC s.cap none fun _=>some (.ptr s.b s.off,H)
def aString (E:Env) (H:Heap) (pt:TypeId) (p:AVal) (n:Nat):R:=
 natC n (ifB (isNilP p) (some (.str [],H)) (bnd (asPtr p) fun _=>some (.str [],H))) fun _=>
  bnd (asPtr p) fun q=>bnd (E.desc pt) fun d=>bnd (dPtr d) fun u=>bnd (E.size u) fun s=>bnd (H.row q.1) fun r=>
   ifB (band (Nat.ble 100 q.1) (band (Nat.beq s 1) (band (Nat.beq r.t u) (Nat.ble (Nat.add q.2 n) r.n))))
    (bnd (Tr.gets n r.c q.2) fun cs=>bnd (bytesOfA cs) fun l=>some (.str l,⟨H.blk.del q.1,H.next⟩)) none
def l1 {α:Type u}{β:Type} (l:List β) (r:Option α):Option α:=lC l r fun _ _=>none
def abuiltin (E:Env) (H:Heap) (b:Builtin) (ts:List TypeId) (args:List AVal):R:=
 lC args none fun x r=>lC ts none fun t us=>
  match b with
  | .append=>lC r none fun y q=>lC us none fun u vs=>l1 q (l1 vs (aappend E H t u x y))
  | .copy=>lC r none fun y q=>l1 q (acopy E H t x y)
  | .len=>pureR H (alen E H t x)
  | .cap=>pureR H (acap E t x)
  | .min=>pureR H (obind (amin r x) (lC r none fun y q=>l1 q (findF (mMin x y) E.facts)) some)
  | .max=>pureR H (obind (amax r x) (lC r none fun y q=>l1 q (findF (mMax x y) E.facts)) some)
  | .clear=>l1 r (aclear E H t x)
  | .unsafeSliceData=>l1 r (aSliceData H x)
  | .unsafeString=>lC r none fun y q=>lC us none fun _ vs=>l1 q (l1 vs (bnd (asInt y) fun p=>ifB (isI64 p.1) (nneg p.2 fun n=>ifB (Nat.ble n 1000000000) (aString E H t x n) none) none))
  | _=>none
def cInt (k:IntKind) (x:AVal) (H:Heap):R:=bnd (asIdx x) fun n=>some (mkInt k (awrap k n),H)
def size1 (E:Env) (e:TypeId):Bool:=obind (E.size e) false fun s=>Nat.beq s 1
def cBytes (E:Env) (H:Heap) (e:TypeId) (s:List Nat):R:=
 bnd (E.desc e) fun d=>bnd (dInt d) fun k=>ifB (band (isU8 k) (size1 E e)) (frc (lenA s 0) fun n=>newR H e (mapA u8 s) fun m=>.slice m 0 n n false) none
def cString (E:Env) (H:Heap) (e:TypeId) (x:AVal):R:=
 bnd (E.desc e) fun d=>bnd (dInt d) fun k=>ifB (isU8 k)
  (obind (asSl x) (ifB (isNilSl x) (some (.str [],H)) (bnd (asOsl x) fun _=>bnd (textOf E H x) fun v=>some (v,H))) fun s=>obind (pkL H s) (bnd (H.loads s.b s.off s.len) fun cs=>bnd (bytesOfA cs) fun l=>some (.str l,H)) fun l=>some (.str l,H)) none
def cToUnsafe (E:Env) (H:Heap) (t:TypeId) (x:AVal):R:=
 bnd (asPtr x) fun p=>bnd (E.size t) fun s=>bnd (H.row p.1) fun r=>natC s none fun _=>ifB (Nat.blt p.2 r.n) (some (x,H)) none
def cFromUnsafe (E:Env) (H:Heap) (u:TypeId) (x:AVal):R:=
 bnd (asPtr x) fun p=>bnd (E.size u) fun s=>bnd (H.row p.1) fun r=>natC s none fun _=>
  ifB (band (Nat.beq r.t u) (band (Nat.beq (Nat.mod p.2 s) 0) (Nat.ble (Nat.add p.2 s) r.n))) (some (x,H)) none
def cStr (E:Env) (H:Heap) (dd:TypeDesc) (x:AVal):R:=
 bnd (asStr x) fun s=>ifB (dString dd) (some (x,H)) (bnd (dSlice dd) fun e=>cBytes E H e s)
def cOther (E:Env) (H:Heap) (sd dd:TypeDesc) (x:AVal):R:=
 obind (dSlice sd)
  (obind (dPtr sd) (ifB (dUnsafe sd) (bnd (dPtr dd) fun u=>cFromUnsafe E H u x) none)
   fun t=>ifB (dUnsafe dd) (cToUnsafe E H t x) none)
  fun e=>ifB (dString dd) (cString E H e x) none
def aconvert (E:Env) (H:Heap) (src dst:TypeId) (x:AVal):R:=
 bnd (E.desc dst) fun dd=>bnd (E.desc src) fun sd=>
  obind (asInt x) (ifB (dString sd) (cStr E H dd x) (cOther E H sd dd x)) fun _=>bnd (dInt dd) fun k=>cInt k x H
def symConv (E:Env) (H:Heap) (src dst:TypeId) (x:AVal):R:=
 bnd (E.desc dst) fun dd=>bnd (E.desc src) fun sd=>obind (dInt dd) (ifB (dString sd) (bnd (findF (mLen x) E.facts) fun _=>ifB (dString dd) (some (x,H)) (bnd (dSlice dd) fun e=>bnd (E.desc e) fun d=>bnd (dInt d) fun k=>ifB (band (isU8 k) (size1 E e)) (putT H e x) none)) none)
  fun k=>ifB (isInt sd) (bnd (findF (mConv k x) E.facts) fun r=>some (r,H)) none
abbrev Ents:=List (AVal×AVal×Nat)
def litKey (v:AVal):Bool:=match v with | .bool _=>true | .int _ _=>true | .str _=>true | _=>false
def keyOk (v:AVal):Bool:=match v with | .agg l=>allA litKey l | v=>litKey v
def keyEq (E:Env) (H:Heap) (t:TypeId) (k x:AVal):Option Bool:=
 obind (asStr k) (aequal E H 10000 t k x) fun a=>bnd (asStr x) fun b=>some (lbeq a b)
def mfind (E:Env) (H:Heap) (t:TypeId) (k:AVal) (es:Ents):Option (Option AVal):=
 List.rec (some none) (fun e _ ih=>bnd (keyEq E H t k e.1) fun r=>ifB (vbeq k e.1) (ifB r (some (some e.2.1)) none) (ifB r none ih)) es
def mput (k:AVal) (v:AVal) (es:Ents):Ents:=List.rec [] (fun e l ih=>ifB (vbeq k e.1) ((e.1,v,e.2.2)::l) (e::ih)) es
def Heap.ents (H:Heap) (x:AVal):Option Ents:=ifB (isNilMap x) (some []) (bnd (asMap x) fun r=>bnd (H.blk.get r) fun b=>bnd (asMapB b) fun m=>some m.1)
def okPair (ok:Bool) (v:AVal) (is:Bool):AVal:=ifB ok (.tuple [v,.bool is]) v
def scalarT (E:Env) (t:TypeId):Bool:=obind (E.desc t) false fun d=>ifB (dString d) true (obind (dInt d) false fun _=>true)
def keyFields (E:Env) (l:List AVal) (fs:List Field):Bool:=
 List.rec true (fun f _ ih=>band (band (scalarT E f.type) (obind (E.apart f.type l f.offset) false litKey)) ih) fs
def keyElems (E:Env) (e:TypeId) (s:Nat) (l:List AVal) (is:List Nat):Bool:=
 List.rec true (fun i _ ih=>band (obind (E.apart e l (Nat.mul i s)) false litKey) ih) is
def keyArr (E:Env) (l:List AVal) (q:Nat×TypeId):Bool:=band (scalarT E q.2) (obind (E.size q.2) false fun s=>keyElems E q.2 s l (List.range q.1))
def keyFits (E:Env) (d:TypeDesc) (k:AVal):Bool:=
 match k with
 | .str _=>dString d
 | .int _ _=>obind (dInt d) false fun _=>true
 | .agg l=>band (allA litKey l) (obind (dStruct d) (obind (dArray d) false fun q=>keyArr E l q) fun fs=>keyFields E l fs)
 | _=>false
def alookup (E:Env) (H:Heap) (t:TypeId) (x k:AVal) (ok:Bool):Option AVal:=
 bnd (E.desc t) fun d=>bnd (dMap d) fun q=>bnd (E.desc q.1) fun kd=>ifB (keyFits E kd k)
  (bnd (H.ents x) fun es=>bnd (mfind E H q.1 k es) fun f=>obind f (bnd (E.zero q.2) fun z=>some (okPair ok z false)) fun v=>some (okPair ok v true)) none
def mapPut (H:Heap) (r:Nat) (k:AVal) (v:AVal) (es:Ents) (c:Nat) (f:Option AVal):Heap:=
 obind f ⟨H.blk.set r (.map (appA es [(k,v,c)]) (Nat.succ c)),H.next⟩ fun _=>⟨H.blk.set r (.map (mput k v es) c),H.next⟩
def amapUpdate (E:Env) (H:Heap) (t:TypeId) (m k v:AVal):Option Heap:=
 bnd (E.desc t) fun d=>bnd (dMap d) fun q=>bnd (E.desc q.1) fun kd=>ifB (keyFits E kd k)
  (bnd (asMap m) fun r=>bnd (H.blk.get r) fun b=>bnd (asMapB b) fun p=>ifB (Nat.ble 100 r) (bnd (mfind E H q.1 k p.1) fun f=>some (mapPut H r k v p.1 p.2 f)) none) none
def shId {α:Type} (N d id:Nat) (f:Nat→α):α:=ifB (Nat.blt id N) (f id) (frc (Nat.add d (Nat.sub id N)) f)
def shV (N d:Nat) (v:AVal):AVal:=
 @AVal.rec (fun _=>AVal) (fun _=>List AVal)
  (fun b=>.bool b) (fun k n=>.int k n) (fun s=>.str s) .nilp (fun b o=>shId N d b fun m=>.ptr m o) .nilslice (fun b o l c x=>shId N d b fun m=>.slice m o l c x) .nilmap (fun r=>shId N d r fun m=>.map m)
  (fun f _ _ l m=>.fn f l m) (fun l=>shId N d l fun m=>.yieldf m) (fun b c=>shId N d b fun m=>.capv m c) .nilfn (fun t _ v=>.iface t v) .niliface (fun _ l=>.agg l) (fun _ l=>.tuple l) (fun i=>shId N d i fun m=>.sym m) (fun b o q=>shId N d b fun m=>.esl m o q) (fun b _ v=>shId N d b fun m=>.osl m v) (fun b o q c x=>shId N d b fun m=>shId N d q fun p=>.psl m o p c x)
  [] (fun _ _ a l=>a::l) v
def mapTr {α β:Type} (f:α→β) (t:Tr α):Tr β:=Tr.rec .nil (fun _ v _ l r=>.node l (bnd v fun a=>some (f a)) r) t
def shB (N d:Nat) (b:ABlk):ABlk:=
 ABlk.rec (fun t n c=>.cells t n (mapTr (shV N d) c)) (fun es c=>.map (mapA (fun e=>(e.1,shV N d e.2.1,e.2.2)) es) c) (fun a b c e f g h i=>.loop a b c e f g h i) (fun s p=>.siter s p) (fun t v=>.text t (shV N d v)) (fun t n N=>.pack t n N) (fun t v=>.ints t (shV N d v)) (fun c=>.view (mapTr (shV N d) c)) b
def putRows (N d:Nat) (rows:List (Nat×ABlk)):Tr ABlk→Tr ABlk:=
 List.rec (motive:=fun _=>Tr ABlk→Tr ABlk) (fun t=>t) (fun p _ ih t=>shId N d p.1 fun m=>ih (t.set m (shB N d p.2))) rows
def mMake (g:FuncId) (as:List AVal) (f:Fact):Option (Nat×Nat×List (Nat×ABlk)×AVal):=
 match f with | .make h bs N n rows r=>ifB (band (Nat.beq g h) (vsbeq as bs)) (some (N,n,rows,r)) none | .makeF p=>p g as | _=>none
def xMake (H:Heap) (N n:Nat) (rows:List (Nat×ABlk)) (r:AVal):R:=
 ifB (Nat.ble N H.next) (frc H.next fun d=>frc (Nat.add d n) fun m=>some (shV N d r,⟨putRows N d rows H.blk,m⟩)) none
def xMapsClone (args:List AVal) (H:Heap):R:=
 lC args none fun a q=>l1 q (bnd (asIface a) fun p=>bnd (asMap p.2) fun r=>bnd (H.blk.get r) fun b=>bnd (asMapB b) fun m=>
  frc H.next fun n=>some (.iface p.1 (.map n),⟨H.blk.set n (.map m.1 m.2),Nat.succ n⟩))
def countA (c:Nat) (s:List Nat):Nat:=List.rec 0 (fun b _ ih=>ifB (Nat.beq b c) (Nat.succ ih) ih) s
def xCount (args:List AVal) (H:Heap):R:=
 lC args none fun a r=>lC r none fun b q=>l1 q (bnd (asStr a) fun s=>bnd (byteOfA b) fun c=>some (mkInt .i64 (.ofNat (countA c s)),H))
def findByte (c:Nat) (s:List Nat):Nat→Int:=
 List.rec (motive:=fun _=>Nat→Int) (fun _=>.negSucc 0) (fun b _ ih i=>ifB (Nat.beq b c) (.ofNat i) (ih (Nat.succ i))) s
def xIndexByte (args:List AVal) (H:Heap):R:=
 lC args none fun a r=>lC r none fun b q=>l1 q (bnd (asStr a) fun s=>bnd (byteOfA b) fun c=>some (mkInt .i64 (findByte c s 0),H))
def cmpB (l:List Nat):List Nat→Int:=
 List.rec (motive:=fun _=>List Nat→Int) (fun m=>lC m (.ofNat 0) fun _ _=>.negSucc 0)
  (fun a _ ih m=>lC m (.ofNat 1) fun b m=>ifB (Nat.blt a b) (.negSucc 0) (ifB (Nat.beq a b) (ih m) (.ofNat 1))) l
def xCompare (args:List AVal) (H:Heap):R:=
 lC args none fun a r=>lC r none fun b q=>l1 q (bnd (asStr a) fun s=>bnd (asStr b) fun t=>some (mkInt .i64 (cmpB s t),H))
def xMakeNoZero (e:TypeId) (args:List AVal) (H:Heap):R:=
 lC args none fun a q=>l1 q (bnd (asInt a) fun p=>ifB (isI64 p.1) (nneg p.2 fun n=>ifB (Nat.ble n 1000000000)
  (frc H.next fun m=>frc n fun n=>some (.slice m 0 n n false,⟨H.blk.set m (.cells e n .nil),Nat.succ m⟩)) none) none)
def xSame (args:List AVal) (H:Heap):R:=lC args none fun a q=>l1 q (some (a,H))
end
end
section
universe u
noncomputable section
inductive CRes where
 | fail
 | nrm (T:Tr AVal) (H:Heap)
 | ex (id:Nat) (T:Tr AVal) (H:Heap)
 | ret (T:Tr AVal) (H:Heap)
structure Fr where
 n:Nat
 fn:FuncId
 ro:Option Nat
abbrev Rec:=Fr→Code→Tr AVal→Heap→CRes
abbrev OpF:=Env→Rec→Tr AVal→Heap→R
def hNone:OpF:=fun _ _ _ _=>none
def hMove (x:Operand):OpF:=fun _ _ T H=>pureR H (ev T x)
def hPick (c a b:Operand):OpF:=fun _ _ T H=>bnd (ev T c) fun v=>bnd (asBool v) fun q=>ifB q (pureR H (ev T a)) (pureR H (ev T b))
def hAlloc (t:TypeId):OpF:=fun E _ _ H=>bnd (E.zero t) fun z=>newR H t (acells z) fun m=>.ptr m 0
def hBox (t:TypeId) (x:Operand):OpF:=fun _ _ T H=>bnd (ev T x) fun v=>ifB (allA okCell (acells v)) (newR H t (acells v) fun m=>.ptr m 0) none
def fieldPl (E:Env) (fs:List Field) (i:Nat):Option (Nat×Nat):=bnd (nthA i fs) fun f=>bnd (E.size f.type) fun s=>some (f.offset,s)
def elemPl (s:Nat) (i:Nat):Option (Nat×Nat):=some (Nat.mul i s,s)
def fillA (place:Nat→Option (Nat×Nat)) (total:Nat) (ps:List (Nat×AVal)):List AVal→Option (List AVal):=
 List.rec (motive:=fun _=>List AVal→Option (List AVal)) some
  (fun p _ ih cs=>bnd (place p.1) fun q=>ifB (band (Nat.beq (lenA (acells p.2) 0) q.2) (Nat.ble (Nat.add q.1 q.2) total)) (ih (overA q.1 (acells p.2) cs)) none) ps
def allSizes (E:Env) (fs:List Field):Bool:=List.rec true (fun f _ ih=>obind (E.size f.type) false fun _=>ih) fs
def buildD (E:Env) (d:TypeDesc) (z:List AVal) (ps:List (Nat×AVal)):Option (List AVal):=
 obind (dStruct d) (bnd (dArray d) fun q=>bnd (E.size q.2) fun s=>fillA (elemPl s) (lenA z 0) ps z) fun fs=>ifB (allSizes E fs) (fillA (fieldPl E fs) (lenA z 0) ps z) none
def hBuild (t:TypeId) (parts:Array (Nat×Operand)):OpF:=fun E _ T H=>
 bnd (E.zero t) fun z=>bnd (evParts T parts.toList) fun ps=>bnd (E.desc t) fun d=>bnd (buildD E d (acells z) ps) fun l=>some (.agg l,H)
def hBuildSlice (t:TypeId) (len:Nat) (parts:Array (Nat×Operand)):OpF:=fun E _ T H=>
 bnd (E.desc t) fun d=>bnd (dSlice d) fun e=>bnd (evParts T parts.toList) fun ps=>bnd (E.size e) fun s=>bnd (E.zero e) fun z=>
  ifB (band (Nat.ble (Nat.mul len s) 16777216) (Nat.beq (lenA (acells z) 0) s))
   (bnd (fillA (elemPl s) (Nat.mul len s) ps (repA (acells z) len)) fun l=>ifB (allA okCell l) (newR H e l fun m=>.slice m 0 len len true) none) none
def hLoad (t:TypeId) (a:Operand):OpF:=fun E _ T H=>bnd (ev T a) fun v=>bnd (asPtr v) fun p=>pureR H (E.loadVar H t p.1 p.2)
def hStore (t:TypeId) (a x:Operand):OpF:=fun E _ T H=>
 bnd (ev T a) fun v=>bnd (asPtr v) fun p=>bnd (ev T x) fun y=>bnd (E.storeVar H t p.1 p.2 y) fun H'=>some (aundef,H')
def hNilCheck (x:Operand):OpF:=fun _ _ T H=>bnd (ev T x) fun v=>ifB (isNil v) none (some (v,H))
def hBinOp (op:BinOp) (t:TypeId) (x y:Operand) (_:TypeId):OpF:=fun E _ T H=>
 bnd (ev T x) fun a=>bnd (ev T y) fun b=>pureR H (abin E H op t x y a b)
def unNeg (k:IntKind) (n:Int):AVal:=mkInt k (awrap k (ineg n))
def unXor (k:IntKind) (n:Int):AVal:=mkInt k (back k (Nat.xor (twos k n) (Nat.sub (full k) 1)))
def aunary (op:UnOp) (x:AVal):Option AVal:=
 match op with
 | .neg=>bnd (asInt x) fun p=>some (unNeg p.1 p.2)
 | .xor=>bnd (asInt x) fun p=>some (unXor p.1 p.2)
 | .not=>bnd (asBool x) fun b=>some (ifB b (.bool false) (.bool true))
 | .plus=>none
def hUnOp (op:UnOp) (_:TypeId) (x:Operand):OpF:=fun E _ T H=>bnd (ev T x) fun v=>pureR H (ifB (isSym v) (findF (mUn op v) E.facts) (aunary op v))
def hConvert (s d:TypeId) (x:Operand):OpF:=fun E _ T H=>bnd (ev T x) fun v=>ifB (isSym v) (symConv E H s d v) (aconvert E H s d v)
def hMakeInterface (t:TypeId) (x:Operand):OpF:=fun E _ T H=>bnd (E.desc t) fun d=>ifB (dIface d) none (bnd (ev T x) fun v=>some (.iface t v,H))
def fnFunc (f:Fn):Option FuncId:=match f with | .func f=>some f | _=>none
def hMakeFunc (f:Fn) (first captured:Array Operand):OpF:=fun _ _ T H=>
 bnd (fnFunc f) fun f=>bnd (evs T first.toList) fun l=>bnd (evs T captured.toList) fun m=>some (.fn f l m,H)
def hMakeMap (t:TypeId) (r:Option Operand):OpF:=fun E _ T H=>
 bnd (obind r (some true) fun o=>bnd (ev T o) fun v=>bnd (asInt v) fun _=>bnd (E.desc t) fun d=>bnd (dMap d) fun _=>some true) fun _=>
  frc H.next fun n=>some (.map n,⟨H.blk.set n (.map [] 0),Nat.succ n⟩)
def mkSlice (E:Env) (H:Heap) (e:TypeId) (l c:Nat):R:=
 bnd (E.types.get e) fun i=>bnd (E.zero e) fun z=>
  ifB (band (Nat.ble (Nat.mul c i.bytes) 1000000000) (band (Nat.ble l c) (band (Nat.beq (lenA (acells z) 0) i.size) (Nat.ble c 1000000000))))
   (frc l fun l=>frc c fun c=>newR H e (repA (acells z) c) fun m=>.slice m 0 l c true) none
def i64n {α:Type u} (v:AVal) (f:Nat→Option α):Option α:=bnd (asInt v) fun p=>ifB (isI64 p.1) (nneg p.2 f) none
def hMakeSlice (t:TypeId) (l c:Operand):OpF:=fun E _ T H=>
 bnd (E.desc t) fun d=>bnd (dSlice d) fun e=>bnd (ev T l) fun a=>bnd (ev T c) fun b=>i64n a fun l=>i64n b fun c=>mkSlice E H e l c
def hSlice (t:TypeId) (x:Operand) (lo hi mx:Option Operand):OpF:=fun E _ T H=>
 bnd (ev T x) fun v=>bnd (evO T lo) fun l=>bnd (evO T hi) fun h=>bnd (evO T mx) fun m=>pureR H (aslice E t v l h m)
def fieldOf (E:Env) (b off:Nat) (f:Field):Option AVal:=bnd (E.size f.type) fun s=>natC s none fun _=>frc (Nat.add off f.offset) fun o=>some (.ptr b o)
def hFieldAddr (s:TypeId) (x:Operand) (f:Nat):OpF:=fun E _ T H=>
 bnd (E.desc s) fun d=>bnd (dStruct d) fun fs=>bnd (nthA f fs) fun fl=>bnd (ev T x) fun v=>bnd (asPtr v) fun p=>pureR H (fieldOf E p.1 p.2 fl)
def hField (t:TypeId) (x:Operand) (f:Nat):OpF:=fun E _ T H=>
 bnd (E.desc t) fun d=>bnd (dStruct d) fun fs=>bnd (nthA f fs) fun fl=>bnd (ev T x) fun v=>bnd (asAgg v) fun cs=>pureR H (E.apart fl.type cs fl.offset)
def elemAddr (b off i s:Nat):Option AVal:=frc (Nat.add off (Nat.mul i s)) fun o=>some (.ptr b o)
def indexArr (E:Env) (q:Nat×TypeId) (v:AVal) (i:Int):Option AVal:=
 bnd (asPtr v) fun p=>bnd (E.size q.2) fun s=>inB i q.1 fun i=>elemAddr p.1 p.2 i s
def indexSl (E:Env) (e:TypeId) (v:AVal) (i:Int):Option AVal:=
 bnd (E.size e) fun s=>obind (asSl v) (bnd (asPsl v) fun p=>nneg i fun n=>bnd (findF (mNum p.q) E.facts) fun m=>ifB (Nat.blt n m.1) (elemAddr p.b p.o n s) none) fun q=>inB i q.len fun i=>elemAddr q.b q.off i s
def aindexAddr (E:Env) (t:TypeId) (v ix:AVal):Option AVal:=
 bnd (asIdx ix) fun i=>bnd (E.desc t) fun d=>obind (dSlice d) (bnd (dArray d) fun q=>indexArr E q v i) fun e=>indexSl E e v i
def hIndexAddr (t:TypeId) (x ix:Operand):OpF:=fun E _ T H=>bnd (ev T x) fun v=>bnd (ev T ix) fun i=>pureR H (aindexAddr E t v i)
def strAt (s:List Nat) (i:Int):Option AVal:=nneg i fun n=>bnd (nthA n s) fun b=>some (u8 b)
def indexAgg (E:Env) (q:Nat×TypeId) (v:AVal) (i:Int):Option AVal:=
 bnd (asAgg v) fun cs=>bnd (E.size q.2) fun s=>inB i q.1 fun i=>E.apart q.2 cs (Nat.mul i s)
def aindex (E:Env) (t:TypeId) (v ix:AVal):Option AVal:=
 bnd (asIdx ix) fun i=>obind (asStr v) (bnd (E.desc t) fun d=>bnd (dArray d) fun q=>indexAgg E q v i) fun s=>bnd (E.desc t) fun d=>ifB (dString d) (strAt s i) none
def symIndex (E:Env) (t:TypeId) (v ix:AVal):Option AVal:=bnd (asIdx ix) fun i=>bnd (E.desc t) fun d=>ifB (dString d) (nneg i fun n=>findF (mAt v n) E.facts) none
def hIndex (t:TypeId) (x ix:Operand):OpF:=fun E _ T H=>bnd (ev T x) fun v=>bnd (ev T ix) fun i=>pureR H (ifB (isSym v) (symIndex E t v i) (aindex E t v i))
def hLookup (t:TypeId) (x k:Operand) (ok:Bool):OpF:=fun E _ T H=>bnd (ev T x) fun v=>bnd (ev T k) fun k=>pureR H (alookup E H t v k ok)
def hMapUpdate (t:TypeId) (m k v:Operand):OpF:=fun E _ T H=>
 bnd (ev T m) fun m=>bnd (ev T k) fun k=>bnd (ev T v) fun v=>bnd (amapUpdate E H t m k v) fun H'=>some (aundef,H')
def hRange (t:TypeId) (x:Operand):OpF:=fun E _ T H=>
 bnd (E.desc t) fun d=>ifB (dString d) (bnd (ev T x) fun v=>bnd (asStr v) fun s=>frc H.next fun n=>some (.ptr n 0,⟨H.blk.set n (.siter s 0),Nat.succ n⟩)) none
def iterStep (H:Heap) (b:Nat) (s:List Nat) (p:Nat):R:=
 obind (nthA p s) (some (.tuple [.bool false],H)) fun c=>ifB (Nat.blt c 128)
  (frc (Nat.succ p) fun n=>some (.tuple [.bool true,.int .i64 (.ofNat p),.int .i32 (.ofNat c)],⟨H.blk.set b (.siter s n),H.next⟩)) none
def hNext (it:Operand) (str:Bool):OpF:=fun _ _ T H=>
 ifB str (bnd (ev T it) fun v=>bnd (asPtr v) fun p=>natC p.2 (bnd (H.blk.get p.1) fun b=>bnd (asIter b) fun q=>ifB (Nat.ble 100 p.1) (iterStep H p.1 q.1 q.2) none) fun _=>none) none
def hTypeAssert (x:Operand) (_ ty:TypeId) (ok:Bool):OpF:=fun E _ T H=>
 bnd (E.desc ty) fun d=>ifB (dIface d) none (bnd (ev T x) fun v=>bnd (asIface v) fun p=>ifB (Nat.beq p.1 ty) (some (okPair ok p.2 true,H)) none)
def hExtract (t:Operand) (ix:Nat):OpF:=fun _ _ T H=>bnd (ev T t) fun v=>bnd (asTuple v) fun l=>pureR H (nthA ix l)
def resTmp (t:Nat):Env→Tr AVal→Heap→Option AVal:=fun _ T _=>evTmp t T
def resCell (a:Nat) (t:TypeId):Env→Tr AVal→Heap→Option AVal:=fun E T H=>bnd (T.get a) fun v=>bnd (asPtr v) fun p=>E.loadVar H t p.1 p.2
def aresult (r:ResultVar):Env→Tr AVal→Heap→Option AVal:=@ResultVar.rec (fun _=>Env→Tr AVal→Heap→Option AVal) resTmp resCell r
def aresults (E:Env) (T:Tr AVal) (H:Heap) (l:List ResultVar):Option (List AVal):=
 List.rec (some []) (fun r _ ih=>bnd (aresult r E T H) fun a=>bnd ih fun m=>some (a::m)) l
def one (l:List AVal):AVal:=lC l (.tuple []) fun a m=>lC m a fun _ _=>.tuple l
def leave (E:Env) (fn:Func) (T:Tr AVal) (H:Heap):R:=bnd (aresults E T H fn.results.toList) fun l=>some (one l,H)
def maxN (a b:Nat):Nat:=ifB (Nat.ble a b) b a
def leaves (E:Env) (fn:Func) (r:CRes):R:=@CRes.rec (fun _=>R) none (fun T H=>leave E fn T H) (fun _ _ _=>none) (fun T H=>leave E fn T H) r
def abody (E:Env) (rec:Rec) (f:FuncId) (args:List AVal) (H:Heap):R:=
 bnd (E.funcs.get f) fun fn=>bnd fn.body fun c=>leaves E fn (rec ⟨maxN fn.ntmps (lenA args 0),f,none⟩ c (Tr.ofList args) H)
def outSlice (sz:Nat) (t:TypeId) (r:R):Option (Nat×List AVal):=
 bnd r fun r=>bnd (asSl r.1) fun s=>bnd (r.2.row s.b) fun w=>
  ifB (band (Nat.ble 100 s.b) (band (Nat.beq s.off 0) (band (Nat.beq w.t t) (band (ifB s.ex (Nat.ble (Nat.mul s.cap sz) w.n) (Nat.beq (Nat.mul s.cap sz) w.n)) (Nat.ble s.len s.cap)))))
   (bnd (Tr.gets (Nat.mul s.len sz) w.c 0) fun l=>some (s.len,l)) none
def oldCell (m:Nat) (v:AVal):Bool:=
 match v with
 | .bool _=>true
 | .int _ _=>true
 | .str _=>true
 | .nilp=>true
 | .nilslice=>true
 | .nilmap=>true
 | .nilfn=>true
 | .niliface=>true
 | .ptr b _=>Nat.blt b m
 | .slice b _ _ _ ex=>band ex (Nat.blt b m)
 | .map b=>Nat.blt b m
 | .sym b=>Nat.blt b m
 | _=>false
abbrev CallF:=List AVal→Heap→R
def insOut (H:Heap) (s:Sl) (bv:Nat) (t:TypeId) (sz:Nat) (x y:Option (Nat×List AVal)):R:=
 bnd x fun p=>bnd y fun q=>ifB (band (Nat.beq p.1 q.1) (band (vsbeq p.2 q.2) (allA (oldCell H.next) p.2)))
  (some (.slice H.next 0 p.1 p.1 false,⟨((H.blk.del s.b).del bv).set H.next (.cells t (Nat.mul p.1 sz) (Tr.ofList p.2)),Nat.succ H.next⟩)) none
def insRun (E:Env) (run:CallF) (s:Sl) (i:AVal) (v:Sl) (H:Heap):R:=
 bnd (H.crow s.b) fun r=>bnd (H.crow v.b) fun w=>bnd (E.size r.t) fun sz=>
  ifB (band (band (Nat.ble 100 s.b) (Nat.ble 100 v.b)) (band (bnot (Nat.beq s.b v.b)) (band (Nat.beq v.len 1) (Nat.beq (Nat.add s.off (Nat.mul s.cap sz)) r.n))))
   (insOut H s v.b r.t sz
    (outSlice sz r.t (run [.slice s.b s.off s.len s.cap true,i,.slice v.b v.off v.len v.cap v.ex]
     ⟨Tr.set (Tr.set (tabTr E.tabs) s.b (.cells r.t r.n r.c)) v.b (.cells w.t w.n w.c),H.next⟩))
    (outSlice sz r.t (run [.slice H.next s.off s.len (Nat.succ s.cap) false,i,.slice v.b v.off v.len v.cap v.ex]
     ⟨Tr.set (Tr.set (tabTr E.tabs) H.next (.cells r.t (Nat.add r.n sz) r.c)) v.b (.cells w.t w.n w.c),Nat.succ H.next⟩))) none
def ainsert (E:Env) (run:CallF) (args:List AVal) (H:Heap):R:=
 lC args none fun a l=>lC l none fun i m=>lC m none fun v q=>l1 q
  (obind (asSl a) (run args H) fun s=>ifB s.ex (run args H) (bnd (asSl v) fun w=>frc H.next fun n=>insRun E run s i w ⟨H.blk,n⟩))
def oeq (a b:Option AVal):Bool:=obind a (obind b true fun _=>false) fun x=>obind b false fun y=>vbeq x y
def treq (t:Tr AVal):Tr AVal→Bool:=
 Tr.rec (motive:=fun _=>Tr AVal→Bool) (fun s=>Tr.rec (motive:=fun _=>Bool) true (fun _ _ _ _ _=>false) s)
  (fun _ v _ ihl ihr s=>Tr.rec (motive:=fun _=>Bool) false (fun l v' r _ _=>band (oeq v v') (band (ihl l) (ihr r))) s) t
def entsEq (es:Ents):Ents→Bool:=
 List.rec (motive:=fun _=>Ents→Bool) (fun m=>lC m true fun _ _=>false)
  (fun e _ ih m=>lC m false fun d m=>band (band (vbeq e.1 d.1) (band (vbeq e.2.1 d.2.1) (Nat.beq e.2.2 d.2.2))) (ih m)) es
def blkEq (a b:ABlk):Bool:=
 match a,b with
 | .cells t n c,.cells t' n' c'=>band (Nat.beq t t') (band (Nat.beq n n') (treq c c'))
 | .pack t n N,.pack t' n' N'=>band (Nat.beq t t') (band (Nat.beq n n') (Nat.beq N N'))
 | .map es k,.map es' k'=>band (entsEq es es') (Nat.beq k k')
 | .text t v,.text t' v'=>band (Nat.beq t t') (vbeq v v')
 | .ints t v,.ints t' v'=>band (Nat.beq t t') (vbeq v v')
 | .view c,.view c'=>treq c c'
 | _,_=>false
def putAll (l:List (Nat×ABlk)) (t:Tr ABlk):Tr ABlk:=List.rec t (fun p _ ih=>ih.set p.1 p.2) l
def delAll (l:List (Nat×ABlk)) (t:Tr ABlk):Tr ABlk:=List.rec t (fun p _ ih=>ih.del p.1) l
def haveAll (t:Tr ABlk) (l:List (Nat×ABlk)):Bool:=List.rec true (fun p _ ih=>band (obind (t.get p.1) false fun b=>blkEq b p.2) ih) l
def memoH (H:Heap) (rin rout:List (Nat×ABlk)) (n:Nat):Heap:=⟨putAll rout (delAll rin H.blk),n⟩
def idOf (v:AVal):Option Nat:=match v with | .ptr b _=>some b | .slice b _ _ _ _=>some b | .map r=>some r | .osl b _=>some b | .psl b _ _ _ _=>some b | _=>none
def argId (as:List AVal) (ai fi:Nat):Option Nat:=bnd (nthA ai as) fun a=>natC fi (idOf a) fun k=>bnd (asAgg a) fun l=>bnd (nthA k l) idOf
def cellId (H:Heap) (b ci:Nat):Option Nat:=natC ci (some b) fun k=>bnd (H.row b) fun r=>bnd (Tr.get r.c k) idOf
def segAt (as:List AVal) (H:Heap) (g:Seg):Option (Nat×Nat×Nat):=
 bnd (argId as g.ai g.fi) fun b=>bnd (cellId H b g.ci) fun a=>ifB (Nat.ble g.cid (Nat.add a g.lo)) (frc (Nat.sub (Nat.add a g.lo) g.cid) fun n=>some (g.lo,g.hi,n)) none
def segsAt (as:List AVal) (H:Heap) (l:List Seg):Option (List (Nat×Nat×Nat)):=List.rec (some []) (fun g _ ih=>bnd (segAt as H g) fun x=>bnd ih fun m=>some (x::m)) l
def ren (nx next:Nat) (l:List (Nat×Nat×Nat)) (id:Nat):Nat:=
 ifB (Nat.ble nx id) (Nat.add next (Nat.sub id nx)) (List.rec id (fun x _ ih=>ifB (band (Nat.ble x.1 id) (Nat.blt id x.2.1)) (Nat.add x.2.2 (Nat.sub id x.1)) ih) l)
def segsOk (N nx next:Nat) (l:List (Nat×Nat×Nat)):Bool:=
 List.rec true (fun x _ ih=>band (band (Nat.ble N x.1) (band (Nat.ble x.1 x.2.1) (band (Nat.ble x.2.1 nx) (Nat.ble (Nat.add x.2.2 (Nat.sub x.2.1 x.1)) next)))) ih) l
def memN (n:Nat) (l:List Nat):Bool:=List.rec false (fun a _ ih=>ifB (Nat.beq n a) true ih) l
def noTwice (l:List Nat):Bool:=List.rec true (fun a m ih=>ifB (memN a m) false ih) l
def renIn (N nx:Nat) (ρ:Nat→Nat) (l:List (Nat×ABlk)):Bool:=List.rec true (fun p _ ih=>band (band (Nat.ble N p.1) (band (Nat.blt p.1 nx) (band (Nat.ble 100 (ρ p.1)) (obind (asLoop p.2) true fun _=>false)))) ih) l
def newIds (ρ:Nat→Nat) (l:List (Nat×ABlk)):List Nat:=List.rec [] (fun p _ ih=>frc (ρ p.1) fun m=>m::ih) l
def renV (ρ:Nat→Nat) (v:AVal):AVal:=
 @AVal.rec (fun _=>AVal) (fun _=>List AVal)
  (fun b=>.bool b) (fun k n=>.int k n) (fun s=>.str s) .nilp (fun b o=>frc (ρ b) fun m=>.ptr m o) .nilslice (fun b o l c x=>frc (ρ b) fun m=>.slice m o l c x) .nilmap (fun r=>frc (ρ r) fun m=>.map m)
  (fun f _ _ l m=>.fn f l m) (fun l=>frc (ρ l) fun m=>.yieldf m) (fun b c=>frc (ρ b) fun m=>.capv m c) .nilfn (fun t _ v=>.iface t v) .niliface (fun _ l=>.agg l) (fun _ l=>.tuple l) (fun i=>frc (ρ i) fun m=>.sym m) (fun b o q=>frc (ρ b) fun m=>.esl m o q)
  (fun b _ v=>frc (ρ b) fun m=>.osl m v) (fun b o q c x=>frc (ρ b) fun m=>frc (ρ q) fun p=>.psl m o p c x)
  [] (fun _ _ a l=>a::l) v
def renVs (ρ:Nat→Nat) (l:List AVal):List AVal:=List.rec [] (fun a _ ih=>renV ρ a::ih) l
def renB (ρ:Nat→Nat) (b:ABlk):ABlk:=
 ABlk.rec (fun t n c=>.cells t n (mapTr (renV ρ) c)) (fun es c=>.map (mapA (fun e=>(e.1,renV ρ e.2.1,e.2.2)) es) c) (fun a b c e f g h i=>.loop a b c e f g h i) (fun s p=>.siter s p) (fun t v=>.text t (renV ρ v)) (fun t n N=>.pack t n N) (fun t v=>.ints t (renV ρ v)) (fun c=>.view (mapTr (renV ρ) c)) b
def noId (v:AVal):Bool:=
 match v with
 | .ptr ..=>false | .slice ..=>false | .map ..=>false | .yieldf ..=>false | .capv ..=>false | .sym ..=>false | .esl ..=>false | .osl ..=>false | .psl ..=>false | .fn ..=>false | .iface ..=>false | .agg ..=>false | .tuple ..=>false | _=>true
def noIdT (t:Tr AVal):Bool:=Tr.rec true (fun _ v _ il ir=>ifB (obind v true noId) (ifB il ir false) false) t
def noIdE (es:Ents):Bool:=List.rec true (fun e _ ih=>ifB (noId e.2.1) ih false) es
def noIdB (b:ABlk):Bool:=
 ABlk.rec (fun _ _ c=>noIdT c) (fun es _=>noIdE es) (fun _ _ _ _ _ _ _ _=>true) (fun _ _=>true) (fun _ v=>noId v) (fun _ _ _=>true) (fun _ v=>noId v) (fun c=>noIdT c) b
def renQ (ρ:Nat→Nat) (b:ABlk):ABlk:=ifB (noIdB b) b (renB ρ b)
def haveRen (ρ:Nat→Nat) (t:Tr ABlk) (l:List (Nat×ABlk)):Bool:=List.rec true (fun p _ ih=>band (frc (ρ p.1) fun m=>obind (t.get m) false fun b=>blkEq b (renQ ρ p.2)) ih) l
def delRen (ρ:Nat→Nat) (l:List (Nat×ABlk)) (t:Tr ABlk):Tr ABlk:=List.rec t (fun p _ ih=>frc (ρ p.1) fun m=>ih.del m) l
def putRen (ρ:Nat→Nat) (l:List (Nat×ABlk)) (t:Tr ABlk):Tr ABlk:=List.rec t (fun p _ ih=>frc (ρ p.1) fun m=>ih.set m (renQ ρ p.2)) l
def memoRen (ρ:Nat→Nat) (H:Heap) (rin rout:List (Nat×ABlk)) (n:Nat):Heap:=⟨putRen ρ rout (delRen ρ rin H.blk),n⟩
def goRen (as bs:List AVal) (H:Heap) (N nx:Nat) (rin rout:List (Nat×ABlk)) (r:AVal) (n:Nat) (l:List (Nat×Nat×Nat)) (ρ:Nat→Nat):Option (AVal×Heap):=
 ifB (band (segsOk N nx H.next l) (band (vsbeq as (renVs ρ bs)) (band (renIn N nx ρ rin) (band (noTwice (newIds ρ rin)) (haveRen ρ H.blk rin)))))
  (frc (Nat.add H.next (Nat.sub n nx)) fun m=>some (renV ρ r,memoRen ρ H rin rout m)) none
def mMemoG (g:FuncId) (as:List AVal) (H:Heap) (f:Fact):Option (AVal×Heap):=
 match f with
 | .memoG h N segs bs nx rin rout r n=>ifB (Nat.beq g h) (bnd (segsAt as H segs) fun l=>ifB (band (Nat.ble nx H.next) (band (Nat.ble 100 N) (Nat.ble N nx))) (goRen as bs H N nx rin rout r n l (ren nx H.next l)) none) none
 | _=>none
def mMemo (g:FuncId) (as:List AVal) (H:Heap) (f:Fact):Option (AVal×Heap):=
 match f with
 | .memo h bs nx rin rout r n=>ifB (band (Nat.beq g h) (band (vsbeq as bs) (band (Nat.beq H.next nx) (haveAll H.blk rin)))) (some (r,memoH H rin rout n)) none
 | _=>none
def argFits (E:Env) (H:Heap) (a p:AVal):Bool:=
 obind (asOsl p) (vbeq a p) fun q=>ifB (obind (asOsl a) (obind (asSl a) false fun _=>true) fun _=>true) (obind (textOf E H a) false fun v=>vbeq v q.2) false
def argsFit (E:Env) (H:Heap) (l:List AVal):List AVal→Bool:=
 List.rec (motive:=fun _=>List AVal→Bool) (fun m=>lC m true fun _ _=>false) (fun a _ ih m=>lC m false fun b m=>band (argFits E H a b) (ih m)) l
def mRead (E:Env) (g:FuncId) (as:List AVal) (H:Heap) (f:Fact):Option AVal:=match f with | .read h bs r=>ifB (band (Nat.beq g h) (argsFit E H as bs)) (some r) none | _=>none
def acallS (E:Env) (rec:Rec) (f:FuncId) (args:List AVal) (H:Heap) (s:Spec):R:=
 match s with
 | .mapsClone=>xMapsClone args H
 | .indexByte=>xIndexByte args H
 | .makeNoZero e=>xMakeNoZero e args H
 | .same=>xSame args H
 | .insert=>ainsert E (abody E rec f) args H
 | .compare=>xCompare args H
 | .count=>xCount args H
 | .fact=>bnd (E.funcs.get f) fun fn=>bnd fn.body fun _=>
  obind (findF (mCall f args) E.facts) (obind (findF (mMake f args) E.facts) (obind (findF (mMemo f args H) E.facts) (obind (findF (mMemoG f args H) E.facts) (obind (findF (mRead E f args H) E.facts) (abody E rec f args H) fun r=>some (r,H)) fun q=>some q) fun q=>some q) fun q=>xMake H q.1 q.2.1 q.2.2.1 q.2.2.2) fun r=>some (r,H)
def acall (E:Env) (rec:Rec) (f:FuncId) (args:List AVal) (H:Heap):R:=
 obind (E.spec.get f) (abody E rec f args H) fun s=>acallS E rec f args H s
def setAll (ps:List Tmp):List AVal→Tr AVal→Tr AVal:=
 List.rec (motive:=fun _=>List AVal→Tr AVal→Tr AVal) (fun _ T=>T) (fun p _ ih l T=>lC l T fun a m=>ih m (T.set p a)) ps
def Heap.lp (H:Heap) (l:Nat):Option Lp:=ifB (Nat.ble 100 l) (bnd (H.blk.get l) asLoop) none
def Heap.setLp (H:Heap) (l:Nat) (q:Lp) (st:LoopState) (pend:Option Code):Heap:=
 ⟨H.blk.set l (.loop st pend q.fn q.n q.T q.ps q.assign q.body),H.next⟩
def isReady (s:LoopState):Bool:=match s with | .ready=>true | _=>false
def isBusy (s:LoopState):Bool:=match s with | .busy=>true | _=>false
def roundEnd (l:Nat) (r:CRes):R:=
 @CRes.rec (fun _=>R) none
  (fun _ H=>bnd (H.lp l) fun q=>some (.bool true,H.setLp l q .ready none))
  (fun id _ H=>bnd (H.lp l) fun q=>some (.bool false,H.setLp l q .done (some (.exit id))))
  (fun _ H=>bnd (H.lp l) fun q=>some (.bool false,H.setLp l q .done (some .ret))) r
def nrmR (r:CRes) (f:Tr AVal→Heap→R):R:=@CRes.rec (fun _=>R) none f (fun _ _ _=>none) (fun _ _=>none) r
def ltAll (n:Nat) (l:List Tmp):Bool:=List.rec true (fun p _ ih=>ifB (Nat.blt p n) ih false) l
def around (rec:Rec) (l:Nat) (args:List AVal) (H:Heap):R:=
 bnd (H.lp l) fun q=>ifB (band (isReady q.st) (band (Nat.beq (lenA args 0) (lenA q.ps.toList 0)) (ltAll q.n q.ps.toList)))
  (nrmR (rec ⟨q.n,q.fn,some l⟩ q.assign (setAll q.ps.toList args q.T) H) fun T H=>bnd (H.lp l) fun q'=>
   ifB (isReady q'.st) (roundEnd l (rec ⟨q.n,q.fn,some l⟩ q.body T (H.setLp l q' .busy q'.pend))) none) none
def callFn (E:Env) (rec:Rec) (args:List AVal) (H:Heap) (f:FuncId) (first captured:List AVal):R:=acall E rec f (appA first (appA args captured)) H
def acallV (E:Env) (rec:Rec) (g:AVal) (args:List AVal) (H:Heap):R:=
 match g with
 | .fn f first captured=>callFn E rec args H f first captured
 | .yieldf l=>around rec l args H
 | _=>none
def callB (b:Builtin) (args:Array Operand) (ts:Array TypeId):OpF:=fun E _ T H=>bnd (evs T args.toList) fun vs=>abuiltin E H b ts.toList vs
def callVal (g:Operand) (args:Array Operand):OpF:=fun E rec T H=>bnd (ev T g) fun v=>bnd (evs T args.toList) fun vs=>acallV E rec v vs H
def hCall (c:Call):OpF:=@Callee.rec (fun _=>Array Operand→Array TypeId→OpF) (fun g args _=>callVal g args) (fun _ _ _ _=>hNone) callB c.callee c.args c.argTypes
def aop (o:Op):OpF:=@Op.rec (fun _=>OpF)
 hMove hMove hPick hAlloc hBox hBuild hBuildSlice hMapUpdate hLoad hStore (fun _=>hNone) (fun _=>hNone) hNilCheck hBinOp hUnOp hConvert
 (fun _ _=>hNone) hMakeInterface hMakeFunc hMakeMap (fun _ _=>hNone) hMakeSlice hSlice hFieldAddr hField hIndexAddr hIndex hLookup hMapUpdate
 (fun _ _ _=>hNone) (fun _ _ _ _=>hNone) hRange hNext (fun _=>hNone) hTypeAssert hExtract hCall (fun _=>hNone) (fun _=>hNone) (fun _=>hNone)
 (fun _ _=>hNone) (fun _ _ _=>hNone) (fun _ _=>hNone) o
abbrev RegF:=Tr AVal→Heap→CRes
def aput (n:Nat) (dst:Option Tmp) (T:Tr AVal) (v:AVal) (f:Tr AVal→CRes):CRes:=
 obind dst (f T) fun d=>ifB (Nat.blt d n) (f (T.set d v)) .fail
def aexec (E:Env) (rec:Rec) (n:Nat) (o:Oper) (T:Tr AVal) (H:Heap) (k:RegF):CRes:=
 obind (aop o.op E rec T H) .fail fun r=>aput n o.dst T r.1 fun T'=>k T' r.2
def boolTmp (T:Tr AVal) (d:Tmp) (want:Bool):Bool:=obind (T.get d) false fun v=>obind (asBool v) false fun b=>bbeq b want
def wantedG (ops:List Oper) (T:Tr AVal) (g:Nat×Bool):Bool:=obind (nthA g.1 ops) false fun o=>obind o.dst false fun d=>boolTmp T d g.2
def guardSym (v:AVal):Bool:=ifB (isTop v) true (isSym v)
def symG (ops:List Oper) (T:Tr AVal) (g:Nat×Bool):Bool:=obind (nthA g.1 ops) false fun o=>obind o.dst false fun d=>obind (T.get d) false guardSym
def aone (E:Env) (rec:Rec) (n:Nat) (ops:List Oper) (o:Oper) (k:RegF) (T:Tr AVal) (H:Heap):CRes:=
 obind o.guard (aexec E rec n o T H k) fun g=>ifB (symG ops T g) .fail (ifB (wantedG ops T g) (aexec E rec n o T H k) (aput n o.dst T aundef fun T'=>k T' H))
def aops (E:Env) (rec:Rec) (n:Nat) (ops:List Oper) (l:List Oper):RegF:=
 List.rec (motive:=fun _=>RegF) (fun T H=>.nrm T H) (fun o _ ih=>aone E rec n ops o ih) l
structure OpM where
 i:Nat
 pre:Nat
 anc:Nat
 kind:Nat
 o:Oper
def bindsA (e:Edge):Bool:=Region.binds .any e
def preMask (es:List Edge):Nat:=List.rec 0 (fun e _ ih=>ifB (bindsA e) (Nat.lor (Nat.shiftLeft 1 e.on) ih) ih) es
def ancMask (acc:List Nat) (es:List Edge):Nat:=
 List.rec 0 (fun e _ ih=>ifB (bindsA e) (Nat.lor (Nat.lor (Nat.shiftLeft 1 e.on) (obind (nthA e.on acc) 0 fun a=>a)) ih) ih) es
def ancs (l:List Oper):List Nat→List Nat:=
 List.rec (motive:=fun _=>List Nat→List Nat) (fun acc=>acc) (fun o _ ih acc=>frc (ancMask acc o.after.toList) fun a=>ih (appA acc [a])) l
def tmpOf (x:Operand):Option Nat:=match x with | .tmp t=>some t | _=>none
def memO (t:Nat) (l:List Operand):Bool:=List.rec false (fun x _ ih=>obind (tmpOf x) ih fun u=>ifB (Nat.beq u t) true ih) l
def looks (ops:List Oper) (o:Oper) (t:Nat):Bool:=
 ifB (memO t o.op.operands.toList) true (obind o.guard false fun g=>obind (nthA g.1 ops) false fun q=>obind q.dst false fun d=>Nat.beq d t)
def bit (m i:Nat):Bool:=Nat.beq (Nat.land (Nat.shiftRight m i) 1) 1
def late (ops:List Oper) (w:Nat) (t:Nat) (l:List Oper):List Nat→Bool:=
 List.rec (motive:=fun _=>List Nat→Bool) (fun _=>false)
  (fun o _ ih as=>lC as false fun a as=>ifB (looks ops o t) (ifB (bit a w) (ih as) true) (ih as)) l
def bLight (b:Builtin):Bool:=match b with | .len=>true | .cap=>true | .min=>true | .max=>true | _=>false
def cLight (c:Call):Bool:=match c.callee with | .builtin b=>bLight b | _=>false
def toInt (E:Env) (t:TypeId):Bool:=obind (E.desc t) false isInt
def opKind (E:Env) (o:Op):Nat:=
 match o with
 | .move _=>0 | .assign _=>0 | .pick _ _ _=>0 | .build _ _=>0 | .load _ _=>0 | .nilCheck _=>0 | .binOp _ _ _ _ _=>0 | .unOp _ _ _=>0
 | .makeInterface _ _=>0 | .makeFunc _ _ _=>0 | .slice _ _ _ _ _=>0 | .fieldAddr _ _ _=>0 | .field _ _ _=>0 | .indexAddr _ _ _=>0 | .index _ _ _=>0
 | .lookup _ _ _ _=>0 | .typeAssert _ _ _ _=>0 | .extract _ _=>0
 | .convert _ d _=>ifB (toInt E d) 0 2
 | .call c=>ifB (cLight c) 0 2
 | .alloc _=>1 | .box _ _=>1 | .buildSlice _ _ _=>1 | .makeSlice _ _ _=>1
 | _=>2
def kindOf (E:Env) (ops:List Oper) (as:List Nat) (i:Nat) (o:Oper):Nat:=
 obind o.dst (ifB (Nat.beq (opKind E o.op) 1) 2 (opKind E o.op)) fun d=>ifB (late ops i d ops as) 2 (opKind E o.op)
def metaGo (E:Env) (ops:List Oper) (as:List Nat) (l:List Oper):Nat→List Nat→List OpM:=
 List.rec (motive:=fun _=>Nat→List Nat→List OpM) (fun _ _=>[])
  (fun o _ ih i bs=>lC bs [] fun a bs=>frc (preMask o.after.toList) fun p=>frc (kindOf E ops as i o) fun k=>⟨i,p,a,k,o⟩::ih (Nat.succ i) bs) l
def metaOf (E:Env) (ops:List Oper):List OpM:=metaGo E ops (ancs ops []) ops 0 (ancs ops [])
def noDst (t:Nat) (l:List Oper):Bool:=List.rec true (fun o _ ih=>obind o.dst ih fun d=>ifB (Nat.beq d t) false ih) l
def oneDst (l:List Oper):Bool:=List.rec true (fun o r ih=>obind o.dst ih fun d=>ifB (noDst d r) ih false) l
def subM (a b:Nat):Bool:=Nat.beq (Nat.land a b) a
def addM (m i:Nat):Nat:=Nat.lor m (Nat.shiftLeft 1 i)
def isK (k:Nat) (m:OpM):Bool:=Nat.beq m.kind k
abbrev DrF:=Nat→Tr AVal→Heap→CRes
def drOne (E:Env) (rec:Rec) (n:Nat) (ops:List Oper) (m:OpM) (D:Nat) (T:Tr AVal) (H:Heap) (k:DrF):CRes:=
 frc (addM D m.i) fun D'=>aone E rec n ops m.o (fun T H=>k D' T H) T H
def satur (E:Env) (rec:Rec) (n:Nat) (ops:List Oper) (k:DrF) (l:List OpM):DrF:=
 List.rec (motive:=fun _=>DrF) k
  (fun m _ ih D T H=>ifB (bit D m.i) (ih D T H) (ifB (band (bnot (isK 2 m)) (subM m.pre D)) (drOne E rec n ops m D T H ih) (ih D T H))) l
def sameAs (T:Tr AVal) (dst:Option Tmp) (v:AVal):Bool:=obind dst true fun d=>obind (T.get d) false fun u=>vbeq u v
def failRec:Rec:=fun _ _ _ _=>.fail
def bid (v:AVal):Option Nat:=match v with | .ptr b _=>some b | .slice b _ _ _ _=>some b | _=>none
def reid (m:Nat) (v:AVal):AVal:=match v with | .ptr _ o=>.ptr m o | .slice _ o l c x=>.slice m o l c x | v=>v
def rowEq (r q:Row):Bool:=band (Nat.beq r.t q.t) (band (Nat.beq r.n q.n) (treq r.c q.c))
def sameRow (T:Tr AVal) (H:Heap) (dst:Option Tmp) (r:AVal×Heap):Bool:=
 obind dst false fun d=>obind (T.get d) false fun u=>obind (bid u) false fun m=>obind (H.row m) false fun q=>obind (r.2.row H.next) false fun q'=>
  band (vbeq (reid m r.1) u) (rowEq q q')
def againR (E:Env) (T:Tr AVal) (H:Heap) (row:Bool) (o:Oper):Bool:=
 obind (aop o.op E failRec T H) false fun r=>ifB row (sameRow T H o.dst r) (sameAs T o.dst r.1)
def again (E:Env) (ops:List Oper) (T:Tr AVal) (H:Heap) (row:Bool) (o:Oper):Bool:=
 obind o.guard (againR E T H row o) fun g=>ifB (symG ops T g) false (ifB (wantedG ops T g) (againR E T H row o) (sameAs T o.dst aundef))
def agains (E:Env) (ops:List Oper) (HA D:Nat) (T:Tr AVal) (H:Heap) (l:List OpM):Bool:=
 List.rec true (fun m _ ih=>ifB (band (bnot (isK 2 m)) (band (bit D m.i) (bnot (bit HA m.i)))) (ifB (again E ops T H (isK 1 m) m.o) ih false) ih) l
def enabled (D:Nat) (l:List OpM):List OpM:=List.rec [] (fun m _ ih=>ifB (band (bnot (bit D m.i)) (subM m.pre D)) (m::ih) ih) l
def drNext (next:Nat→DrF) (E:Env) (rec:Rec) (n:Nat) (ops:List Oper) (ms:List OpM) (HA:Nat):DrF:=fun D T H=>
 ifB (agains E ops HA D T H ms)
  (lC (enabled D ms) (ifB (Nat.beq (Nat.succ D) (Nat.shiftLeft 1 (lenA ops 0))) (.nrm T H) .fail)
   fun m r=>lC r (ifB (isK 2 m) (frc (Nat.lor HA m.anc) fun HA'=>drOne E rec n ops m D T H (next HA')) .fail) fun _ _=>.fail) .fail
def drGo (E:Env) (rec:Rec) (n:Nat) (ops:List Oper) (ms:List OpM) (f:Nat):Nat→DrF:=
 Nat.rec (motive:=fun _=>Nat→DrF) (fun _ _ _ _=>.fail) (fun _ ih HA=>satur E rec n ops (drNext ih E rec n ops ms HA) ms) f
def adraw (E:Env) (rec:Rec) (n:Nat) (ops:List Oper) (T:Tr AVal) (H:Heap):CRes:=
 ifB (oneDst ops) (drGo E rec n ops (metaOf E ops) (Nat.succ (lenA ops 0)) 0 0 T H) .fail
abbrev CodF:=Env→Rec→Fr→Tr AVal→Heap→CRes
def kFail:CodF:=fun _ _ _ _ _=>.fail
def kSkip:CodF:=fun _ _ _ T H=>.nrm T H
def kRegion (ops:Array Oper) (draw:Bool):CodF:=fun E rec fr T H=>ifB draw (adraw E rec fr.n ops.toList T H) (aops E rec fr.n ops.toList ops.toList T H)
def kSeq (a b:CodF):CodF:=fun E rec fr T H=>@CRes.rec (fun _=>CRes) .fail (fun T H=>b E rec fr T H) (fun id T H=>.ex id T H) (fun T H=>.ret T H) (a E rec fr T H)
def kCond (c:Operand) (a b:CodF):CodF:=fun E rec fr T H=>obind (ev T c) .fail fun v=>obind (asBool v) .fail fun q=>ifB q (a E rec fr T H) (b E rec fr T H)
def kBlock (id:Nat) (a:CodF):CodF:=fun E rec fr T H=>
 @CRes.rec (fun _=>CRes) .fail (fun T H=>.nrm T H) (fun j T H=>ifB (Nat.beq j id) (.nrm T H) (.ex j T H)) (fun T H=>.ret T H) (a E rec fr T H)
def joinV (a b:Option AVal):Option AVal:=ifB (oeq a b) a (some topV)
def topAll (t:Tr AVal):Tr AVal:=Tr.rec .nil (fun _ v _ l r=>.node l (obind v none fun _=>some topV) r) t
def joinT (t:Tr AVal):Tr AVal→Tr AVal:=
 Tr.rec (motive:=fun _=>Tr AVal→Tr AVal) (fun s=>topAll s)
  (fun l v r ihl ihr s=>Tr.rec (motive:=fun _=>Tr AVal) (topAll (.node l v r)) (fun l' v' r' _ _=>.node (ihl l') (joinV v v') (ihr r')) s) t
def obeq (a b:Option ABlk):Bool:=obind a (obind b true fun _=>false) fun x=>obind b false fun y=>blkEq x y
def hbeq (t:Tr ABlk):Tr ABlk→Bool:=
 Tr.rec (motive:=fun _=>Tr ABlk→Bool) (fun s=>Tr.rec (motive:=fun _=>Bool) true (fun _ _ _ _ _=>false) s)
  (fun _ v _ ihl ihr s=>Tr.rec (motive:=fun _=>Bool) false (fun l v' r _ _=>band (obeq v v') (band (ihl l) (ihr r))) s) t
def heq (H H':Heap):Bool:=band (Nat.beq H.next H'.next) (hbeq H.blk H'.blk)
def joinC (a b:CRes):CRes:=
 match a,b with
 | .nrm T H,.nrm T' H'=>ifB (heq H H') (.nrm (joinT T T') H) .fail
 | .ret T H,.ret T' H'=>ifB (heq H H') (.ret (joinT T T') H) .fail
 | .ex i T H,.ex j T' H'=>ifB (band (Nat.beq i j) (heq H H')) (.ex i (joinT T T') H) .fail
 | _,_=>.fail
def runAlts (run:List Fact→CRes) (l:List (List Fact)):CRes:=List.rec (motive:=fun _=>CRes) .fail (fun f r ih=>lC r (run f) fun _ _=>joinC (run f) ih) l
def roundOf (T:Tr AVal) (t:Nat):Option Nat:=bnd (T.get t) fun v=>bnd (asInt v) fun p=>nneg p.2 some
def altsOf (E:Env) (fn:FuncId) (T:Tr AVal):Option (List (List Fact)):=bnd (E.alts.get fn) fun q=>bnd (roundOf T q.1) fun i=>nthA i q.2
def loopRes (c:Code) (rec:Rec) (fr:Fr) (r:CRes):CRes:=@CRes.rec (fun _=>CRes) .fail (fun T H=>rec fr (.loop c) T H) (fun j T H=>.ex j T H) (fun T H=>.ret T H) r
def kLoop (c:Code) (a:CodF):CodF:=fun E rec fr T H=>
 loopRes c rec fr (obind (altsOf E fr.fn T) (a E rec fr T H) fun l=>runAlts (fun f=>a (E.plus f) failRec fr T H) l)
def kExit (id:Nat):CodF:=fun _ _ _ T H=>.ex id T H
def kRet:CodF:=fun _ _ _ T H=>.ret T H
def jump (c:Code) (T:Tr AVal) (H:Heap):CRes:=match c with | .ret=>.ret T H | .exit id=>.ex id T H | _=>.fail
def rangeEnd (l:Nat) (T:Tr AVal) (H:Heap):CRes:=
 obind (H.lp l) .fail fun q=>ifB (isBusy q.st) .fail (obind q.pend (.nrm T (H.setLp l q .exhausted q.pend)) fun c=>jump c T (H.setLp l q .exhausted q.pend))
def roOk (fr:Fr) (H:Heap):Bool:=obind fr.ro true fun l=>obind (H.lp l) false fun _=>true
def asFn (v:AVal):Option (FuncId×List AVal×List AVal):=match v with | .fn f l m=>some (f,l,m) | _=>none
def rangeGo (E:Env) (rec:Rec) (fr:Fr) (T:Tr AVal) (H:Heap) (l:Nat) (q:FuncId×List AVal×List AVal) (ps:Array Tmp) (assign body:Code):CRes:=
 obind (abody E rec q.1 (appA q.2.1 (appA [.yieldf l] q.2.2)) ⟨H.blk.set l (.loop .ready none fr.fn fr.n T ps assign body),Nat.succ l⟩) .fail fun r=>rangeEnd l T r.2
def kRange (f:Operand) (ps:Array Tmp) (assign body:Code):CodF:=fun E rec fr T H=>
 ifB (roOk fr H) (obind (ev T f) .fail fun v=>obind (asFn v) .fail fun q=>obind (E.spec.get q.1) (frc H.next fun l=>rangeGo E rec fr T H l q ps assign body) fun _=>.fail) .fail
def acode (c:Code):CodF:=@Code.rec (fun _=>CodF)
 kSkip (fun _ ops d=>kRegion ops d) (fun _ _ a b=>kSeq a b) (fun c _ _ a b=>kCond c a b) (fun id _ a=>kBlock id a) (fun c a=>kLoop c a)
 (fun f ps a b _ _=>kRange f ps a b) (fun id=>kExit id) (fun _ _=>kFail) (fun _=>kSkip) (fun _=>kFail) kRet (fun _=>kFail) c
def arec (E:Env) (n:Nat):Rec:=Nat.rec (motive:=fun _=>Rec) (fun _ _ _ _=>.fail) (fun _ ih fr c T H=>acode c E ih fr T H) n
end
end
end Go.AEv
