/- A verified evaluator of Go code, and its soundness (EvK). Conditions: those of each theorem. -/
import Derived.AtR
set_option linter.all false
namespace Go.AEv
section
universe u v
noncomputable section
def ifB {α:Sort u} (b:Bool) (t e:α):α:=Bool.rec e t b
def bnd {α:Type u}{β:Type v} (x:Option α) (f:α→Option β):Option β:=Option.rec none f x
def zt {α:Type u}{β:Sort v} (x:Option α) (e:β) (f:α→β):β:=Option.rec e f x
def frc {α:Sort u} (n:Nat) (f:Nat→α):α:=Nat.rec (f 0) (fun m _=>f m) (Nat.succ n)
def Q9 {α:Sort u} (n:Nat) (z:α) (s:Nat→α):α:=Nat.rec z (fun m _=>s m) n
def yf {α:Sort u} (n:Int) (p:Nat→α) (q:Nat→α):α:=Int.rec p q n
inductive Pa where
 | e | o (p:Pa) | i (p:Pa)
 deriving DecidableEq
inductive Tr (α:Type) where
 | nil
 | node (l:Tr α) (v:Option α) (r:Tr α)
def Jn (f:Nat):Nat→Pa:=
 Nat.rec (motive:=fun _=>Nat→Pa) (fun _=>.e)
  (fun _ ih i=>ifB (Nat.beq i 0) .e (ifB (Nat.beq (Nat.mod i 2) 1) (.o (ih (Nat.div i 2))) (.i (ih (Nat.sub (Nat.div i 2) 1))))) f
def path (n:Nat):Pa:=Jn (Nat.succ n) n
def ZX {α:Type} (p:Pa):Tr α→Option α:=
 Pa.rec (motive:=fun _=>Tr α→Option α)
  (fun t=>Tr.rec none (fun _ v _ _ _=>v) t)
  (fun _ ih t=>Tr.rec none (fun l _ _ _ _=>ih l) t)
  (fun _ ih t=>Tr.rec none (fun _ _ r _ _=>ih r) t) p
def XR {α:Type} (a:Option α) (p:Pa):Tr α→Tr α:=
 Pa.rec (motive:=fun _=>Tr α→Tr α)
  (fun t=>Tr.rec (.node .nil a .nil) (fun l _ r _ _=>.node l a r) t)
  (fun _ ih t=>Tr.rec (.node (ih .nil) none .nil) (fun l v r _ _=>.node (ih l) v r) t)
  (fun _ ih t=>Tr.rec (.node .nil none (ih .nil)) (fun l v r _ _=>.node l v (ih r)) t) p
namespace Tr
variable {α:Type}
def get (t:Tr α) (i:Nat):Option α:=ZX (path i) t
def set (t:Tr α) (i:Nat) (a:α):Tr α:=XR (some a) (path i) t
def del (t:Tr α) (i:Nat):Tr α:=XR none (path i) t
end Tr
def lC {α:Type u}{β:Sort v} (l:List α) (z:β) (s:α→List α→β):β:=List.rec z (fun a l _=>s a l) l
end
end
section
universe u
noncomputable section
inductive zd where
 | bool (b:Bool)
 | int (k:IntKind) (n:Int)
 | str (s:List Nat)
 | nilp
 | ptr (b off:Nat)
 | nilslice
 | slice (b off len cap:Nat) (exact:Bool)
 | nilmap
 | map (r:Nat)
 | fn (f:FuncId) (first captured:List zd)
 | yieldf (l:Nat)
 | capv (b c:Nat)
 | nilfn
 | iface (t:TypeId) (v:zd)
 | niliface
 | agg (l:List zd)
 | tuple (l:List zd)
 | sym (i:Nat)
 | esl (b o q:Nat)
 | osl (b:Nat) (v:zd)
 | psl (b o q c:Nat) (ex:Bool)
def qN:zd:=.tuple []
structure Sl where
 b:Nat
 off:Nat
 len:Nat
 cap:Nat
 ex:Bool
def asBool (v:zd):Option Bool:=
 @zd.rec (fun _=>Option Bool) (fun _=>PUnit)
  (fun b=>some b)
  (fun _ _=>none)
  (fun _=>none)
  (none)
  (fun _ _=>none)
  (none)
  (fun _ _ _ _ _=>none)
  (none)
  (fun _=>none)
  (fun _ _ _ _ _=>none)
  (fun _=>none)
  (fun _ _=>none)
  (none)
  (fun _ _ _=>none)
  (none)
  (fun _ _=>none)
  (fun _ _=>none)
  (fun _=>none)
  (fun _ _ _=>none)
  (fun _ _ _=>none)
  (fun _ _ _ _ _=>none)
  ⟨⟩ (fun _ _ _ _=>⟨⟩) v
def asInt (v:zd):Option (IntKind×Int):=
 @zd.rec (fun _=>Option (IntKind×Int)) (fun _=>PUnit)
  (fun _=>none)
  (fun k n=>some (k,n))
  (fun _=>none)
  (none)
  (fun _ _=>none)
  (none)
  (fun _ _ _ _ _=>none)
  (none)
  (fun _=>none)
  (fun _ _ _ _ _=>none)
  (fun _=>none)
  (fun _ _=>none)
  (none)
  (fun _ _ _=>none)
  (none)
  (fun _ _=>none)
  (fun _ _=>none)
  (fun _=>none)
  (fun _ _ _=>none)
  (fun _ _ _=>none)
  (fun _ _ _ _ _=>none)
  ⟨⟩ (fun _ _ _ _=>⟨⟩) v
def Jy (v:zd):Option Int:=
 @zd.rec (fun _=>Option Int) (fun _=>PUnit)
  (fun _=>none)
  (fun _ n=>some n)
  (fun _=>none)
  (none)
  (fun _ _=>none)
  (none)
  (fun _ _ _ _ _=>none)
  (none)
  (fun _=>none)
  (fun _ _ _ _ _=>none)
  (fun _=>none)
  (fun _ _=>none)
  (none)
  (fun _ _ _=>none)
  (none)
  (fun _ _=>none)
  (fun _ _=>none)
  (fun _=>none)
  (fun _ _ _=>none)
  (fun _ _ _=>none)
  (fun _ _ _ _ _=>none)
  ⟨⟩ (fun _ _ _ _=>⟨⟩) v
def ZS (v:zd):Option (Nat×Nat):=
 @zd.rec (fun _=>Option (Nat×Nat)) (fun _=>PUnit)
  (fun _=>none)
  (fun _ _=>none)
  (fun _=>none)
  (none)
  (fun b o=>some (b,o))
  (none)
  (fun _ _ _ _ _=>none)
  (none)
  (fun _=>none)
  (fun _ _ _ _ _=>none)
  (fun _=>none)
  (fun _ _=>none)
  (none)
  (fun _ _ _=>none)
  (none)
  (fun _ _=>none)
  (fun _ _=>none)
  (fun _=>none)
  (fun _ _ _=>none)
  (fun _ _ _=>none)
  (fun _ _ _ _ _=>none)
  ⟨⟩ (fun _ _ _ _=>⟨⟩) v
def jN (v:zd):Option Sl:=
 @zd.rec (fun _=>Option Sl) (fun _=>PUnit)
  (fun _=>none)
  (fun _ _=>none)
  (fun _=>none)
  (none)
  (fun _ _=>none)
  (none)
  (fun b o l c x=>some ⟨b,o,l,c,x⟩)
  (none)
  (fun _=>none)
  (fun _ _ _ _ _=>none)
  (fun _=>none)
  (fun _ _=>none)
  (none)
  (fun _ _ _=>none)
  (none)
  (fun _ _=>none)
  (fun _ _=>none)
  (fun _=>none)
  (fun _ _ _=>none)
  (fun _ _ _=>none)
  (fun _ _ _ _ _=>none)
  ⟨⟩ (fun _ _ _ _=>⟨⟩) v
def qR (v:zd):Option (List Nat):=
 @zd.rec (fun _=>Option (List Nat)) (fun _=>PUnit)
  (fun _=>none)
  (fun _ _=>none)
  (fun s=>some s)
  (none)
  (fun _ _=>none)
  (none)
  (fun _ _ _ _ _=>none)
  (none)
  (fun _=>none)
  (fun _ _ _ _ _=>none)
  (fun _=>none)
  (fun _ _=>none)
  (none)
  (fun _ _ _=>none)
  (none)
  (fun _ _=>none)
  (fun _ _=>none)
  (fun _=>none)
  (fun _ _ _=>none)
  (fun _ _ _=>none)
  (fun _ _ _ _ _=>none)
  ⟨⟩ (fun _ _ _ _=>⟨⟩) v
def asAgg (v:zd):Option (List zd):=
 @zd.rec (fun _=>Option (List zd)) (fun _=>PUnit)
  (fun _=>none)
  (fun _ _=>none)
  (fun _=>none)
  (none)
  (fun _ _=>none)
  (none)
  (fun _ _ _ _ _=>none)
  (none)
  (fun _=>none)
  (fun _ _ _ _ _=>none)
  (fun _=>none)
  (fun _ _=>none)
  (none)
  (fun _ _ _=>none)
  (none)
  (fun l _=>some l)
  (fun _ _=>none)
  (fun _=>none)
  (fun _ _ _=>none)
  (fun _ _ _=>none)
  (fun _ _ _ _ _=>none)
  ⟨⟩ (fun _ _ _ _=>⟨⟩) v
def asTuple (v:zd):Option (List zd):=
 @zd.rec (fun _=>Option (List zd)) (fun _=>PUnit)
  (fun _=>none)
  (fun _ _=>none)
  (fun _=>none)
  (none)
  (fun _ _=>none)
  (none)
  (fun _ _ _ _ _=>none)
  (none)
  (fun _=>none)
  (fun _ _ _ _ _=>none)
  (fun _=>none)
  (fun _ _=>none)
  (none)
  (fun _ _ _=>none)
  (none)
  (fun _ _=>none)
  (fun l _=>some l)
  (fun _=>none)
  (fun _ _ _=>none)
  (fun _ _ _=>none)
  (fun _ _ _ _ _=>none)
  ⟨⟩ (fun _ _ _ _=>⟨⟩) v
def bZ (v:zd):Option (TypeId×zd):=
 @zd.rec (fun _=>Option (TypeId×zd)) (fun _=>PUnit)
  (fun _=>none)
  (fun _ _=>none)
  (fun _=>none)
  (none)
  (fun _ _=>none)
  (none)
  (fun _ _ _ _ _=>none)
  (none)
  (fun _=>none)
  (fun _ _ _ _ _=>none)
  (fun _=>none)
  (fun _ _=>none)
  (none)
  (fun t v _=>some (t,v))
  (none)
  (fun _ _=>none)
  (fun _ _=>none)
  (fun _=>none)
  (fun _ _ _=>none)
  (fun _ _ _=>none)
  (fun _ _ _ _ _=>none)
  ⟨⟩ (fun _ _ _ _=>⟨⟩) v
def yL (v:zd):Option (Nat×zd):=
 @zd.rec (fun _=>Option (Nat×zd)) (fun _=>PUnit)
  (fun _=>none)
  (fun _ _=>none)
  (fun _=>none)
  (none)
  (fun _ _=>none)
  (none)
  (fun _ _ _ _ _=>none)
  (none)
  (fun _=>none)
  (fun _ _ _ _ _=>none)
  (fun _=>none)
  (fun _ _=>none)
  (none)
  (fun _ _ _=>none)
  (none)
  (fun _ _=>none)
  (fun _ _=>none)
  (fun _=>none)
  (fun _ _ _=>none)
  (fun b v _=>some (b,v))
  (fun _ _ _ _ _=>none)
  ⟨⟩ (fun _ _ _ _=>⟨⟩) v
structure Psl where
 b:Nat
 o:Nat
 q:Nat
 c:Nat
 ex:Bool
def ay (v:zd):Option Psl:=
 @zd.rec (fun _=>Option Psl) (fun _=>PUnit)
  (fun _=>none)
  (fun _ _=>none)
  (fun _=>none)
  (none)
  (fun _ _=>none)
  (none)
  (fun _ _ _ _ _=>none)
  (none)
  (fun _=>none)
  (fun _ _ _ _ _=>none)
  (fun _=>none)
  (fun _ _=>none)
  (none)
  (fun _ _ _=>none)
  (none)
  (fun _ _=>none)
  (fun _ _=>none)
  (fun _=>none)
  (fun _ _ _=>none)
  (fun _ _ _=>none)
  (fun b o q c x=>some ⟨b,o,q,c,x⟩)
  ⟨⟩ (fun _ _ _ _=>⟨⟩) v
def eF (v:zd):Option Nat:=
 @zd.rec (fun _=>Option Nat) (fun _=>PUnit)
  (fun _=>none)
  (fun _ _=>none)
  (fun _=>none)
  (none)
  (fun _ _=>none)
  (none)
  (fun _ _ _ _ _=>none)
  (none)
  (fun r=>some r)
  (fun _ _ _ _ _=>none)
  (fun _=>none)
  (fun _ _=>none)
  (none)
  (fun _ _ _=>none)
  (none)
  (fun _ _=>none)
  (fun _ _=>none)
  (fun _=>none)
  (fun _ _ _=>none)
  (fun _ _ _=>none)
  (fun _ _ _ _ _=>none)
  ⟨⟩ (fun _ _ _ _=>⟨⟩) v
def isNil (v:zd):Bool:=
 @zd.rec (fun _=>Bool) (fun _=>PUnit)
  (fun _=>false)
  (fun _ _=>false)
  (fun _=>false)
  (true)
  (fun _ _=>false)
  (false)
  (fun _ _ _ _ _=>false)
  (false)
  (fun _=>false)
  (fun _ _ _ _ _=>false)
  (fun _=>false)
  (fun _ _=>false)
  (true)
  (fun _ _ _=>false)
  (true)
  (fun _ _=>false)
  (fun _ _=>false)
  (fun _=>true)
  (fun _ _ _=>false)
  (fun _ _ _=>false)
  (fun _ _ _ _ _=>false)
  ⟨⟩ (fun _ _ _ _=>⟨⟩) v
def jB (v:zd):Bool:=
 @zd.rec (fun _=>Bool) (fun _=>PUnit)
  (fun _=>false)
  (fun _ _=>false)
  (fun _=>false)
  (false)
  (fun _ _=>false)
  (true)
  (fun _ _ _ _ _=>false)
  (false)
  (fun _=>false)
  (fun _ _ _ _ _=>false)
  (fun _=>false)
  (fun _ _=>false)
  (false)
  (fun _ _ _=>false)
  (false)
  (fun _ _=>false)
  (fun _ _=>false)
  (fun _=>false)
  (fun _ _ _=>false)
  (fun _ _ _=>false)
  (fun _ _ _ _ _=>false)
  ⟨⟩ (fun _ _ _ _=>⟨⟩) v
def gm (v:zd):Bool:=
 @zd.rec (fun _=>Bool) (fun _=>PUnit)
  (fun _=>false)
  (fun _ _=>false)
  (fun _=>false)
  (true)
  (fun _ _=>false)
  (false)
  (fun _ _ _ _ _=>false)
  (false)
  (fun _=>false)
  (fun _ _ _ _ _=>false)
  (fun _=>false)
  (fun _ _=>false)
  (false)
  (fun _ _ _=>false)
  (false)
  (fun _ _=>false)
  (fun _ _=>false)
  (fun _=>false)
  (fun _ _ _=>false)
  (fun _ _ _=>false)
  (fun _ _ _ _ _=>false)
  ⟨⟩ (fun _ _ _ _=>⟨⟩) v
def kn (v:zd):Bool:=
 @zd.rec (fun _=>Bool) (fun _=>PUnit)
  (fun _=>true)
  (fun _ _=>true)
  (fun _=>true)
  (true)
  (fun _ _=>true)
  (true)
  (fun _ _ _ _ _=>true)
  (true)
  (fun _=>true)
  (fun _ _ _ _ _=>true)
  (fun _=>true)
  (fun _ _=>true)
  (true)
  (fun _ _ _=>true)
  (true)
  (fun _ _=>false)
  (fun _ _=>false)
  (fun _=>true)
  (fun _ _ _=>true)
  (fun _ _ _=>true)
  (fun _ _ _ _ _=>true)
  ⟨⟩ (fun _ _ _ _=>⟨⟩) v
def ZO (v:zd):Bool:=
 @zd.rec (fun _=>Bool) (fun _=>PUnit)
  (fun _=>false)
  (fun _ _=>false)
  (fun _=>false)
  (false)
  (fun _ _=>false)
  (false)
  (fun _ _ _ _ _=>false)
  (false)
  (fun _=>false)
  (fun _ _ _ _ _=>false)
  (fun _=>false)
  (fun _ _=>false)
  (false)
  (fun _ _ _=>false)
  (false)
  (fun _ _=>false)
  (fun _ _=>false)
  (fun _=>true)
  (fun _ _ _=>false)
  (fun _ _ _=>false)
  (fun _ _ _ _ _=>false)
  ⟨⟩ (fun _ _ _ _=>⟨⟩) v
def wj (v:zd):Bool:=
 @zd.rec (fun _=>Bool) (fun _=>PUnit)
  (fun _=>false)
  (fun _ _=>false)
  (fun _=>false)
  (false)
  (fun _ _=>false)
  (false)
  (fun _ _ _ _ _=>false)
  (false)
  (fun _=>false)
  (fun _ _ _ _ _=>false)
  (fun _=>false)
  (fun _ _=>false)
  (false)
  (fun _ _ _=>false)
  (false)
  (fun _ _=>false)
  (fun _ _=>false)
  (fun _=>false)
  (fun _ _ _=>true)
  (fun _ _ _=>false)
  (fun _ _ _ _ _=>false)
  ⟨⟩ (fun _ _ _ _=>⟨⟩) v
def zP (v:zd):List zd:=
 @zd.rec (fun _=>List zd) (fun _=>PUnit)
  (fun b=>[zd.bool b])
  (fun k n=>[zd.int k n])
  (fun s=>[zd.str s])
  ([zd.nilp])
  (fun b o=>[zd.ptr b o])
  ([zd.nilslice])
  (fun b o l c x=>[zd.slice b o l c x])
  ([zd.nilmap])
  (fun r=>[zd.map r])
  (fun f l m _ _=>[zd.fn f l m])
  (fun l=>[zd.yieldf l])
  (fun b c=>[zd.capv b c])
  ([zd.nilfn])
  (fun t v _=>[zd.iface t v])
  ([zd.niliface])
  (fun l _=>l)
  (fun l _=>[zd.tuple l])
  (fun i=>[zd.sym i])
  (fun b o q=>[zd.esl b o q])
  (fun b v _=>[zd.osl b v])
  (fun b o q c x=>[zd.psl b o q c x])
  ⟨⟩ (fun _ _ _ _=>⟨⟩) v
def lH (k:IntKind):Nat:=@IntKind.rec (fun _=>Nat) 0 1 2 3 4 5 6 7 k
def rZ (k j:IntKind):Bool:=Nat.beq (lH k) (lH j)
def Uk (a b:Int):Bool:=yf a (fun m=>yf b (Nat.beq m) fun _=>false) fun m=>yf b (fun _=>false) (Nat.beq m)
def ilt (a b:Int):Bool:=yf a (fun m=>yf b (Nat.blt m) fun _=>false) fun m=>yf b (fun _=>true) fun n=>Nat.blt n m
def dM (l:List Nat):List Nat→Bool:=
 List.rec (motive:=fun _=>List Nat→Bool) (fun m=>lC m true fun _ _=>false)
  (fun a _ ih m=>lC m false fun b m=>ifB (Nat.beq a b) (ih m) false) l
def oh (a b:Bool):Bool:=ifB a b (ifB b false true)
def kU (a:Bool):Bool:=ifB a false true
def zH (a b:Bool):Bool:=ifB a b false
mutual
def qs:zd→zd→Bool
 | .bool a,.bool b=>oh a b
 | .int k a,.int j b=>zH (rZ k j) (Uk a b)
 | .str a,.str b=>dM a b
 | .nilp,.nilp | .nilslice,.nilslice | .nilmap,.nilmap | .nilfn,.nilfn | .niliface,.niliface=>true
 | .ptr a b,.ptr c d=>zH (Nat.beq a c) (Nat.beq b d)
 | .slice a b c d e,.slice a' b' c' d' e'=>zH (Nat.beq a a') (zH (Nat.beq b b') (zH (Nat.beq c c') (zH (Nat.beq d d') (oh e e'))))
 | .map a,.map b=>Nat.beq a b
 | .fn f a b,.fn g c d=>zH (Nat.beq f g) (zH (yg a c) (yg b d))
 | .yieldf a,.yieldf b=>Nat.beq a b
 | .capv a b,.capv c d=>zH (Nat.beq a c) (Nat.beq b d)
 | .iface t a,.iface u b=>zH (Nat.beq t u) (qs a b)
 | .agg a,.agg b=>yg a b
 | .tuple a,.tuple b=>yg a b
 | .sym a,.sym b=>Nat.beq a b
 | .esl a b c,.esl d e f=>zH (Nat.beq a d) (zH (Nat.beq b e) (Nat.beq c f))
 | .osl a x,.osl b y=>zH (Nat.beq a b) (qs x y)
 | .psl a b c d e,.psl a' b' c' d' e'=>zH (Nat.beq a a') (zH (Nat.beq b b') (zH (Nat.beq c c') (zH (Nat.beq d d') (oh e e'))))
 | _,_=>false
def yg:List zd→List zd→Bool
 | [],[]=>true
 | a::l,b::m=>zH (qs a b) (yg l m)
 | _,_=>false
end
def VM {α:Type} (n:Nat):List α→List α:=
 Nat.rec (motive:=fun _=>List α→List α) (fun _=>[]) (fun _ ih l=>lC l [] fun a m=>a::ih m) n
def ag {α:Type} (n:Nat):List α→List α:=
 Nat.rec (motive:=fun _=>List α→List α) (fun l=>l) (fun _ ih l=>lC l [] fun _ m=>ih m) n
def ZY {α:Type} (n:Nat):List α→Option α:=
 Nat.rec (motive:=fun _=>List α→Option α) (fun l=>lC l none fun a _=>some a) (fun _ ih l=>lC l none fun _ m=>ih m) n
def qT {α:Type} (l:List α):Nat→Nat:=List.rec (motive:=fun _=>Nat→Nat) (fun n=>n) (fun _ _ ih n=>frc (Nat.succ n) ih) l
def jv {α:Type} (l m:List α):List α:=List.rec m (fun a _ ih=>a::ih) l
def mapA {α β:Type} (f:α→β) (l:List α):List β:=List.rec [] (fun a _ ih=>f a::ih) l
def ZL (n:Nat):List zd→List zd→List zd:=
 Nat.rec (motive:=fun _=>List zd→List zd→List zd)
  (fun m l=>List.rec (motive:=fun _=>List zd→List zd) (fun l=>l) (fun a _ ih l=>lC l [] fun _ l=>a::ih l) m l)
  (fun _ ih m l=>lC l [] fun a l=>a::ih m l) n
def yY (z:List zd) (n:Nat):List zd:=Nat.rec [] (fun _ ih=>jv z ih) n
def ZF (p:zd→Bool) (l:List zd):Bool:=List.rec true (fun a _ ih=>ifB (p a) ih false) l
namespace Tr
variable {α:Type}
def cU (l:List α):Tr α→Nat→Tr α:=
 List.rec (motive:=fun _=>Tr α→Nat→Tr α) (fun t _=>t) (fun a _ ih t i=>frc (Nat.succ i) fun j=>ih (t.set i a) j) l
def alt (l:List α):Bool→List α:=List.rec (motive:=fun _=>Bool→List α) (fun _=>[]) (fun a _ ih b=>ifB b (a::ih false) (ih true)) l
def build (f:Nat):List α→Tr α:=Nat.rec (motive:=fun _=>List α→Tr α) (fun _=>.nil) (fun _ ih l=>lC l .nil fun a m=>.node (ih (alt m true)) (some a) (ih (alt m false))) f
def ofList (l:List α):Tr α:=frc (qT l 0) fun n=>ifB (Nat.ble n 48) (cU l .nil 0) (build n l)
def lft (t:Tr α):Tr α:=Tr.rec .nil (fun l _ _ _ _=>l) t
def rgt (t:Tr α):Tr α:=Tr.rec .nil (fun _ _ r _ _=>r) t
def top (t:Tr α):Option α:=Tr.rec none (fun _ v _ _ _=>v) t
def over (u:Tr α) (lo hi:Nat) (f:Nat):Tr α→Nat→Nat→Tr α:=
 Nat.rec (motive:=fun _=>Tr α→Nat→Nat→Tr α) (fun t _ _=>t)
  (fun _ ih t a s=>ifB (Nat.ble hi a) t (frc (Nat.add a s) fun b=>frc (Nat.add s s) fun q=>frc (Nat.add b s) fun c=>
   .node (ih (lft t) b q) (ifB (Nat.ble lo a) (u.get (Nat.sub a lo)) (top t)) (ih (rgt t) c q))) f
def mT (l:List α) (t:Tr α) (i:Nat):Tr α:=
 frc (qT l 0) fun n=>ifB (Nat.ble n 48) (cU l t i) (frc (Nat.add i n) fun h=>over (ofList l) i h (Nat.succ h) t 0 1)
def jF (n:Nat):Tr α→Nat→Option (List α):=
 Nat.rec (motive:=fun _=>Tr α→Nat→Option (List α)) (fun _ _=>some [])
  (fun _ ih t i=>bnd (t.get i) fun a=>bnd (ih t (Nat.succ i)) fun l=>some (a::l)) n
def eg (f:Nat):Nat→Tr α→Nat→Option (List α):=
 Nat.rec (motive:=fun _=>Nat→Tr α→Nat→Option (List α)) (fun n t i=>jF n t i)
  (fun _ ih n t i=>ifB (Nat.ble n 32) (jF n t i) (frc (Nat.div n 2) fun h=>frc (Nat.sub n h) fun k=>frc (Nat.add i h) fun j=>
   bnd (ih h t i) fun l=>bnd (ih k t j) fun m=>some (jv l m))) f
def bC (n:Nat) (t:Tr α) (i:Nat):Option (List α):=eg 20 n t i
def tree (f:Nat→α) (d:Nat):Nat→Nat→Nat→Tr α:=
 Nat.rec (motive:=fun _=>Nat→Nat→Nat→Tr α) (fun _ _ _=>.nil)
  (fun _ ih a s n=>Q9 n .nil fun m=>frc (Nat.add a s) fun b=>frc (Nat.add s s) fun q=>frc (Nat.add b s) fun c=>
   .node (frc (Nat.div (Nat.succ m) 2) fun p=>ih b q p) (some (f a)) (frc (Nat.div m 2) fun r=>ih c q r)) d
end Tr
def byteOf (N i:Nat):Nat:=Nat.mod (Nat.shiftRight N (Nat.mul 8 i)) 256
def unp (n N:Nat):Tr zd:=Tr.tree (fun i=>frc (byteOf N i) fun b=>.int .u8 (.ofNat b)) n 0 1 n
def Q5 (l:List Nat):Nat→Nat→Nat:=
 List.rec (motive:=fun _=>Nat→Nat→Nat) (fun acc _=>acc) (fun b _ ih acc k=>frc (Nat.add acc (Nat.shiftLeft b k)) fun acc=>frc (Nat.add k 8) fun k=>ih acc k) l
def Qy (N o l:Nat):Nat:=Nat.mod (Nat.shiftRight N (Nat.mul 8 o)) (Nat.shiftLeft 1 (Nat.mul 8 l))
def Wa (n S M:Nat):Nat:=Nat.add S (Nat.shiftLeft M (Nat.mul 8 n))
def unp0 (n:Nat):Nat→List Nat:=Nat.rec (motive:=fun _=>Nat→List Nat) (fun _=>[]) (fun _ ih N=>frc (Nat.mod N 256) fun b=>b::frc (Nat.shiftRight N 8) ih) n
def unpH (f:Nat):Nat→Nat→List Nat:=
 Nat.rec (motive:=fun _=>Nat→Nat→List Nat) (fun n N=>unp0 n N)
  (fun _ ih n N=>ifB (Nat.ble n 8) (unp0 n N) (frc (Nat.div n 2) fun h=>frc (Nat.sub n h) fun k=>jv (frc (Qy N 0 h) fun L=>ih h L) (frc (Nat.shiftRight N (Nat.mul 8 h)) fun M=>ih k M))) f
def unpB (n:Nat):Nat→List Nat→List Nat:=Nat.rec (motive:=fun _=>Nat→List Nat→List Nat) (fun _ r=>r) (fun _ ih N r=>frc (Nat.mod N 256) fun b=>b::frc (Nat.shiftRight N 8) fun M=>ih M r) n
def unpA (f:Nat):Nat→Nat→List Nat→List Nat:=
 Nat.rec (motive:=fun _=>Nat→Nat→List Nat→List Nat) (fun n N r=>unpB n N r)
  (fun _ ih n N r=>ifB (Nat.ble n 8) (unpB n N r) (frc (Nat.div n 2) fun h=>frc (Nat.sub n h) fun k=>frc (Qy N 0 h) fun L=>ih h L (frc (Nat.shiftRight N (Nat.mul 8 h)) fun M=>ih k M r))) f
def unpL (n N:Nat):List Nat:=unpA 20 n N []
inductive zJ where
 | cells (t:TypeId) (n:Nat) (c:Tr zd)
 | map (es:List (zd×zd×Nat)) (clock:Nat)
 | loop (st:LoopState) (pend:Option Code) (fn:FuncId) (n:Nat) (T:Tr zd) (ps:Array Tmp) (assign body:Code)
 | siter (s:List Nat) (pos:Nat)
 | text (t:TypeId) (v:zd)
 | pack (t:TypeId) (n N:Nat)
 | ints (t:TypeId) (v:zd)
 | view (c:Tr zd)
structure Row where
 t:TypeId
 n:Nat
 c:Tr zd
structure Lp where
 st:LoopState
 pend:Option Code
 fn:FuncId
 n:Nat
 T:Tr zd
 ps:Array Tmp
 assign:Code
 body:Code
def tf (b:zJ):Option Row:=zJ.rec (fun t n c=>some ⟨t,n,c⟩) (fun _ _=>none) (fun _ _ _ _ _ _ _ _=>none) (fun _ _=>none) (fun _ _=>none) (fun t n N=>some ⟨t,n,unp n N⟩) (fun _ _=>none) (fun _=>none) b
def bY (b:zJ):Option (List (zd×zd×Nat)×Nat):=zJ.rec (fun _ _ _=>none) (fun es c=>some (es,c)) (fun _ _ _ _ _ _ _ _=>none) (fun _ _=>none) (fun _ _=>none) (fun _ _ _=>none) (fun _ _=>none) (fun _=>none) b
def yc (b:zJ):Option Lp:=zJ.rec (fun _ _ _=>none) (fun _ _=>none) (fun a b c d e f g h=>some ⟨a,b,c,d,e,f,g,h⟩) (fun _ _=>none) (fun _ _=>none) (fun _ _ _=>none) (fun _ _=>none) (fun _=>none) b
def BZ (b:zJ):Option (List Nat×Nat):=zJ.rec (fun _ _ _=>none) (fun _ _=>none) (fun _ _ _ _ _ _ _ _=>none) (fun s p=>some (s,p)) (fun _ _=>none) (fun _ _ _=>none) (fun _ _=>none) (fun _=>none) b
def Lp.blk (l:Lp):zJ:=.loop l.st l.pend l.fn l.n l.T l.ps l.assign l.body
def bW (b:zJ):Option (TypeId×zd):=zJ.rec (fun _ _ _=>none) (fun _ _=>none) (fun _ _ _ _ _ _ _ _=>none) (fun _ _=>none) (fun t v=>some (t,v)) (fun _ _ _=>none) (fun _ _=>none) (fun _=>none) b
structure Heap where
 blk:Tr zJ
 next:Nat
inductive Spec where
 | mapsClone
 | indexByte
 | makeNoZero (e:TypeId)
 | same
 | insert
 | compare
 | count
 | fact
structure Seg where
 lo:Nat
 hi:Nat
 cid:Nat
 ai:Nat
 fi:Nat
 ci:Nat
inductive Fact where
 | bin (op:BinOp) (a b r:zd)
 | eq (sh:Nat) (a b:zd) (r:Bool)
 | conv (k:IntKind) (a r:zd)
 | len (a r:zd)
 | min (a b r:zd)
 | max (a b r:zd)
 | sub (a lo hi r:zd)
 | call (f:FuncId) (args:List zd) (r:zd)
 | make (f:FuncId) (args:List zd) (N n:Nat) (rows:List (Nat×zJ)) (r:zd)
 | at_ (a:zd) (i:Nat) (r:zd)
 | pack (l:List zd) (r:zd)
 | read (f:FuncId) (args:List zd) (r:zd)
 | memo (f:FuncId) (args:List zd) (nx:Nat) (rin rout:List (Nat×zJ)) (r:zd) (nx':Nat)
 | num (q lo hi:Nat)
 | diff (q m r:Nat)
 | callF (g:FuncId→List zd→Option zd)
 | makeF (g:FuncId→List zd→Option (Nat×Nat×List (Nat×zJ)×zd))
 | binF (g:BinOp→zd→zd→Option zd)
 | unF (g:UnOp→zd→Option zd)
 | slen (a r:zd)
 | ssub (a h r:zd)
 | memoG (f:FuncId) (N:Nat) (segs:List Seg) (args:List zd) (nx:Nat) (rin rout:List (Nat×zJ)) (r:zd) (nx':Nat)
structure Env where
 P:Program
 types:Tr TypeInfo
 funcs:Tr Func
 spec:Tr Spec
 facts:List Fact
 zW:List (Nat×zJ)
 alts:Tr (Nat×List (List (List Fact)))
def Kd (P:Program) (spec:List (FuncId×Spec)) (facts:List Fact) (zW:List (Nat×zJ)):Env:=
 ⟨P,Tr.ofList P.types.toList,Tr.ofList P.funcs.toList,spec.foldl (fun t p=>t.set p.1 p.2) .nil,facts,zW,.nil⟩
def Env.plus (E:Env) (l:List Fact):Env:=⟨E.P,E.types,E.funcs,E.spec,jv l E.facts,E.zW,.nil⟩
def js (l:List (Nat×zJ)):Tr zJ:=List.rec .nil (fun p _ ih=>ih.set p.1 p.2) l
def descOf (T:Tr TypeInfo) (d:TypeDesc):Option TypeDesc:=
 match d with
 | .named _ u=>bnd (T.get u) fun j=>some j.desc
 | d=>some d
def Env.desc (E:Env) (t:TypeId):Option TypeDesc:=bnd (E.types.get t) fun i=>descOf E.types i.desc
def Env.size (E:Env) (t:TypeId):Option Nat:=bnd (E.types.get t) fun i=>some i.size
def DM (d:TypeDesc):Bool:=match d with | .struct _=>true | .array _ _=>true | _=>false
def Env.isAgg (E:Env) (t:TypeId):Option Bool:=bnd (E.desc t) fun d=>some (DM d)
def jy (d:TypeDesc):Option TypeId:=match d with | .slice e=>some e | _=>none
def yw (d:TypeDesc):Option (Nat×TypeId):=match d with | .array n e=>some (n,e) | _=>none
def k8 (d:TypeDesc):Option (List Field):=match d with | .struct fs=>some fs.toList | _=>none
def gJ (d:TypeDesc):Option TypeId:=match d with | .pointer e=>some e | _=>none
def Jv (d:TypeDesc):Option IntKind:=match d with | .int k=>some k | _=>none
def nY (d:TypeDesc):Option (TypeId×TypeId):=match d with | .map k e=>some (k,e) | _=>none
def jJ (d:TypeDesc):Bool:=match d with | .string=>true | _=>false
def sO (d:TypeDesc):Bool:=match d with | .interface _=>true | _=>false
def bL (d:TypeDesc):Bool:=match d with | .unsafePointer=>true | _=>false
def br (k:IntKind):Bool:=Nat.beq (lH k) 4
def WK (k:IntKind):Bool:=Nat.beq (lH k) 3
def ZW (s:ByteArray):List Nat:=mapA UInt8.toNat s.data.toList
mutual
def ofV:Nat→Value→Option zd
 | 0,_=>none
 | _+1,.bool b=>some (.bool b)
 | _+1,.int k n=>some (.int k n)
 | _+1,.string s=>some (.str (ZW s))
 | _+1,.pointer none=>some .nilp
 | _+1,.slice none 0 0=>some .nilslice
 | _+1,.map none=>some .nilmap
 | _+1,.nilFunc=>some .nilfn
 | _+1,.nilIface=>some .niliface
 | n+1,.agg cs=>bnd (fQ n cs.toList) fun l=>some (.agg l)
 | n+1,.tuple cs=>bnd (fQ n cs.toList) fun l=>some (.tuple l)
 | _+1,_=>none
def fQ:Nat→List Value→Option (List zd)
 | 0,_=>none
 | _+1,[]=>some []
 | n+1,v::l=>bnd (ofV n v) fun a=>bnd (fQ n l) fun m=>some (a::m)
end
def Env.zero (E:Env) (t:TypeId):Option zd:=bnd (E.types.get t) fun i=>bnd i.zero fun v=>ofV 5000 v
def Heap.row (H:Heap) (b:Nat):Option Row:=bnd (H.blk.get b) tf
def vn (b:zJ):Option Row:=zJ.rec (fun t n c=>some ⟨t,n,c⟩) (fun _ _=>none) (fun _ _ _ _ _ _ _ _=>none) (fun _ _=>none) (fun _ _=>none) (fun _ _ _=>none) (fun _ _=>none) (fun _=>none) b
def Heap.vd (H:Heap) (b:Nat):Option Row:=bnd (H.blk.get b) vn
def BX (b:zJ):Option (Tr zd):=zJ.rec (fun _ _ _=>none) (fun _ _=>none) (fun _ _ _ _ _ _ _ _=>none) (fun _ _=>none) (fun _ _=>none) (fun _ _ _=>none) (fun _ _=>none) (fun c=>some c) b
def Heap.dJ (H:Heap) (b off:Nat):Option zd:=zt (H.row b) (bnd (H.blk.get b) fun k=>bnd (BX k) fun c=>c.get off) fun r=>r.c.get off
def Heap.jM (H:Heap) (b off n:Nat):Option (List zd):=bnd (H.row b) fun r=>Tr.bC n r.c off
def Heap.put (H:Heap) (b:Nat) (r:Row) (c:Tr zd):Heap:=⟨H.blk.set b (.cells r.t r.n c),H.next⟩
def Heap.Zq (H:Heap) (b off:Nat) (l:List zd):Option Heap:=
 bnd (H.row b) fun r=>ifB (zH (Nat.ble 100 b) (zH (Nat.ble (Nat.add off (qT l 0)) r.n) (ZF kn l))) (some (H.put b r (Tr.mT l r.c off))) none
def Heap.new (H:Heap) (t:TypeId) (l:List zd):Heap:=⟨H.blk.set H.next (.cells t (qT l 0) (Tr.ofList l)),Nat.succ H.next⟩
structure Pk where
 t:TypeId
 n:Nat
 N:Nat
def bX (b:zJ):Option Pk:=zJ.rec (fun _ _ _=>none) (fun _ _=>none) (fun _ _ _ _ _ _ _ _=>none) (fun _ _=>none) (fun _ _=>none) (fun t n N=>some ⟨t,n,N⟩) (fun _ _=>none) (fun _=>none) b
abbrev R:=Option (zd×Heap)
def yh (H:Heap) (v:Option zd):R:=bnd v fun v=>some (v,H)
def fV (H:Heap) (t:TypeId) (l:List zd) (f:Nat→zd):R:=frc H.next fun m=>some (f m,Heap.new ⟨H.blk,m⟩ t l)
def Env.loadVar (E:Env) (H:Heap) (t:TypeId) (b off:Nat):Option zd:=
 bnd (E.isAgg t) fun g=>ifB g (bnd (E.size t) fun n=>bnd (H.jM b off n) fun l=>some (.agg l)) (H.dJ b off)
def Env.storeVar (E:Env) (H:Heap) (t:TypeId) (b off:Nat) (v:zd):Option Heap:=
 bnd (E.size t) fun n=>ifB (Nat.beq (qT (zP v) 0) n) (H.Zq b off (zP v)) none
def half (k:IntKind):Nat:=@IntKind.rec (fun _=>Nat) 128 32768 2147483648 9223372036854775808 256 65536 4294967296 18446744073709551616 k
def full (k:IntKind):Nat:=@IntKind.rec (fun _=>Nat) 256 65536 4294967296 18446744073709551616 256 65536 4294967296 18446744073709551616 k
def rq (k:IntKind):Nat:=@IntKind.rec (fun _=>Nat) 8 16 32 64 8 16 32 64 k
def Jd (k:IntKind) (n:Int):Nat:=yf n (fun m=>Nat.mod m (full k)) fun m=>Nat.sub (Nat.sub (full k) 1) (Nat.mod m (full k))
def back (k:IntKind) (m:Nat):Int:=ifB (Nat.blt m (half k)) (.ofNat m) (.negSucc (Nat.sub (Nat.sub (full k) 1) m))
def Jx (k:IntKind) (n:Int):Int:=back k (Jd k n)
def mkInt (k:IntKind) (n:Int):zd:=yf n (fun m=>frc m fun m=>.int k (.ofNat m)) fun m=>frc m fun m=>.int k (.negSucc m)
def kL (b:Bool):zd:=ifB b (.bool true) (.bool false)
def mkNat (n:Nat):zd:=frc n fun m=>.int .i64 (.ofNat m)
def Jq {α:Type u} (i:Int) (f:Nat→Option α):Option α:=yf i f fun _=>none
end
end
section
universe u
noncomputable section
def tH:zd:=.str [256]
def WI (v:zd):Bool:=match v with | .str l=>lC l false fun a _=>Nat.beq a 256 | _=>false
def lQ (t:Nat) (T:Tr zd):Option zd:=zt (T.get t) (some qN) fun v=>ifB (WI v) none (some v)
def uX (v:Value) (_:Tr zd):Option zd:=ofV 5000 v
def sI (g:Nat) (_:Tr zd):Option zd:=ifB (Nat.blt g 60) (some (.ptr g 0)) none
def BB (f:Nat) (_:Tr zd):Option zd:=some (.fn f [] [])
def ev (T:Tr zd) (o:Operand):Option zd:=@Operand.rec (fun _=>Tr zd→Option zd) lQ uX sI BB o T
def evs (T:Tr zd) (l:List Operand):Option (List zd):=List.rec (some []) (fun o _ ih=>bnd (ev T o) fun a=>bnd ih fun m=>some (a::m)) l
def bG (T:Tr zd) (l:List (Nat×Operand)):Option (List (Nat×zd)):=
 List.rec (some []) (fun o _ ih=>bnd (ev T o.2) fun a=>bnd ih fun m=>some ((o.1,a)::m)) l
def evO (T:Tr zd) (o:Option Operand):Option (Option zd):=zt o (some none) fun o=>bnd (ev T o) fun v=>some (some v)
def Q4 (m n:Nat):Int:=ifB (Nat.ble n m) (.ofNat (Nat.sub m n)) (.negSucc (Nat.sub (Nat.sub n m) 1))
def Bg (a:Int):Int:=yf a (fun m=>Q4 0 m) fun m=>.ofNat (Nat.succ m)
def uK (a b:Int):Int:=
 yf a (fun m=>yf b (fun n=>.ofNat (Nat.add m n)) fun n=>Q4 m (Nat.succ n))
  fun m=>yf b (fun n=>Q4 n (Nat.succ m)) fun n=>.negSucc (Nat.succ (Nat.add m n))
def Bb (a b:Int):Int:=uK a (Bg b)
def uJ (a b:Int):Int:=
 yf a (fun m=>yf b (fun n=>.ofNat (Nat.mul m n)) fun n=>Q4 0 (Nat.mul m (Nat.succ n)))
  fun m=>yf b (fun n=>Q4 0 (Nat.mul (Nat.succ m) n)) fun n=>.ofNat (Nat.mul (Nat.succ m) (Nat.succ n))
def sf (a b:Int):Int:=
 yf a (fun m=>yf b (fun n=>.ofNat (Nat.div m n)) fun n=>Q4 0 (Nat.div m (Nat.succ n)))
  fun m=>yf b (fun n=>Q4 0 (Nat.div (Nat.succ m) n)) fun n=>.ofNat (Nat.div (Nat.succ m) (Nat.succ n))
def sc (a b:Int):Int:=
 yf a (fun m=>yf b (fun n=>.ofNat (Nat.mod m n)) fun n=>.ofNat (Nat.mod m (Nat.succ n)))
  fun m=>yf b (fun n=>Q4 0 (Nat.mod (Nat.succ m) n)) fun n=>Q4 0 (Nat.mod (Nat.succ m) (Nat.succ n))
abbrev IOp:=IntKind→Int→IntKind→Int→Option zd
def same (k j:IntKind) (v:zd):Option zd:=ifB (rZ k j) (some v) none
def FJ:IOp:=fun k a j b=>same k j (mkInt k (Jx k (uK a b)))
def Fs:IOp:=fun k a j b=>same k j (mkInt k (Jx k (Bb a b)))
def Fy:IOp:=fun k a j b=>same k j (mkInt k (Jx k (uJ a b)))
def Fw:IOp:=fun k a j b=>ifB (Uk b (.ofNat 0)) none (same k j (mkInt k (Jx k (sf a b))))
def Fv:IOp:=fun k a j b=>ifB (Uk b (.ofNat 0)) none (same k j (mkInt k (sc a b)))
def FH:IOp:=fun k a j b=>same k j (mkInt k (back k (Nat.land (Jd k a) (Jd k b))))
def iOr:IOp:=fun k a j b=>same k j (mkInt k (back k (Nat.lor (Jd k a) (Jd k b))))
def Fq:IOp:=fun k a j b=>same k j (mkInt k (back k (Nat.xor (Jd k a) (Jd k b))))
def uL:IOp:=fun k a j b=>same k j (mkInt k (back k (Nat.land (Jd k a) (Nat.xor (Jd k b) (Nat.sub (full k) 1)))))
def shN (k:IntKind) (y:Nat):Nat:=ifB (Nat.ble y (rq k)) y (rq k)
def Fu:IOp:=fun k a _ b=>Jq b fun y=>some (mkInt k (Jx k (uJ a (.ofNat (Nat.pow 2 (shN k y))))))
def Ft:IOp:=fun k a _ b=>Jq b fun y=>some (mkInt k (yf a (fun m=>.ofNat (Nat.div m (Nat.pow 2 (shN k y)))) fun m=>.negSucc (Nat.div m (Nat.pow 2 (shN k y)))))
def FG:IOp:=fun k a j b=>same k j (kL (Uk a b))
def Fx:IOp:=fun k a j b=>same k j (kL (kU (Uk a b)))
def Fz:IOp:=fun k a j b=>same k j (kL (ilt a b))
def FA:IOp:=fun k a j b=>same k j (kL (kU (ilt b a)))
def FC:IOp:=fun k a j b=>same k j (kL (ilt b a))
def FD:IOp:=fun k a j b=>same k j (kL (kU (ilt a b)))
def wk (op:BinOp):IOp:=@BinOp.rec (fun _=>IOp) FJ Fs Fy Fw Fv FH iOr Fq Fu Ft uL FG Fx Fz FA FC FD op
def YT (l:List Nat):List Nat→Bool:=
 List.rec (motive:=fun _=>List Nat→Bool) (fun m=>lC m false fun _ _=>true)
  (fun a _ ih m=>lC m false fun b m=>ifB (Nat.blt a b) true (ifB (Nat.beq a b) (ih m) false)) l
abbrev SOp:=List Nat→List Nat→Option zd
def J8:SOp:=fun _ _=>none
def Fb:SOp:=fun a b=>ifB (Nat.ble (qT a (qT b 0)) 1000000000) (some (.str (jv a b))) none
def Fa:SOp:=fun a b=>some (kL (dM a b))
def D5:SOp:=fun a b=>some (kL (kU (dM a b)))
def D6:SOp:=fun a b=>some (kL (YT a b))
def D7:SOp:=fun a b=>some (kL (kU (YT b a)))
def D8:SOp:=fun a b=>some (kL (YT b a))
def D9:SOp:=fun a b=>some (kL (kU (YT a b)))
def vG (op:BinOp):SOp:=@BinOp.rec (fun _=>SOp) Fb J8 J8 J8 J8 J8 J8 J8 J8 J8 J8 Fa D5 D6 D7 D8 D9 op
def pV (op:BinOp):Nat:=@BinOp.rec (fun _=>Nat) 0 1 2 3 4 5 6 7 8 9 10 11 12 13 14 15 16 op
def findF {α:Type} (p:Fact→Option α) (l:List Fact):Option α:=List.rec none (fun f _ ih=>zt (p f) ih some) l
def Kf (op:BinOp) (a b:zd) (f:Fact):Option zd:=match f with | .bin o x y r=>ifB (zH (Nat.beq (pV op) (pV o)) (zH (qs a x) (qs b y))) (some r) none | .binF g=>g op a b | _=>none
def mUn (op:UnOp) (a:zd) (f:Fact):Option zd:=match f with | .unF g=>g op a | _=>none
def mEq (sh:Nat) (a b:zd) (f:Fact):Option Bool:=match f with | .eq h x y r=>ifB (zH (Nat.beq sh h) (zH (qs a x) (qs b y))) (some r) none | _=>none
def rS (k:IntKind) (a:zd) (f:Fact):Option zd:=match f with | .conv j x r=>ifB (zH (rZ k j) (qs a x)) (some r) none | _=>none
def Uj (a:zd) (f:Fact):Option zd:=match f with | .len x r=>ifB (qs a x) (some r) none | _=>none
def xQ (a b:zd) (f:Fact):Option zd:=match f with | .min x y r=>ifB (zH (qs a x) (qs b y)) (some r) none | _=>none
def xR (a b:zd) (f:Fact):Option zd:=match f with | .max x y r=>ifB (zH (qs a x) (qs b y)) (some r) none | _=>none
def rG (a l h:zd) (f:Fact):Option zd:=match f with | .sub x y z r=>ifB (zH (qs a x) (zH (qs l y) (qs h z))) (some r) none | _=>none
def rK (a:zd) (f:Fact):Option zd:=match f with | .slen x r=>ifB (qs a x) (some r) none | _=>none
def rI (a h:zd) (f:Fact):Option zd:=match f with | .ssub x y r=>ifB (zH (qs a x) (qs h y)) (some r) none | _=>none
def dH (g:FuncId) (as:List zd) (f:Fact):Option zd:=match f with | .call h bs r=>ifB (zH (Nat.beq g h) (yg as bs)) (some r) none | .callF p=>p g as | _=>none
def mAt (a:zd) (i:Nat) (f:Fact):Option zd:=match f with | .at_ x j r=>ifB (zH (qs a x) (Nat.beq i j)) (some r) none | _=>none
def lA (l:List zd) (f:Fact):Option zd:=match f with | .pack m r=>ifB (yg l m) (some r) none | _=>none
def shapeOf (d:TypeDesc):Option Nat:=match d with | .int _=>some 1 | .string=>some 2 | .bool=>some 3 | _=>none
def o8 (E:Env) (t:TypeId) (a b:zd):Option Bool:=bnd (E.desc t) fun d=>bnd (shapeOf d) fun sh=>findF (mEq sh a b) E.facts
def Env.apart (E:Env) (t:TypeId) (cs:List zd) (off:Nat):Option zd:=
 bnd (E.isAgg t) fun g=>ifB g (bnd (E.size t) fun n=>some (.agg (VM n (ag off cs)))) (ZY off cs)
mutual
def Qg (E : Env) (H : Heap) : Nat → TypeId → zd → zd → Option Bool
  | 0, _, _, _ => none
  | f + 1, t, x, y => ifB (zH (kU (ZO x)) (kU (ZO y)))
   (match E.desc t, x, y with
    | some .bool, .bool a, .bool b => some (oh a b)
    | some (.int _), .int k a, .int j b => match rZ k j with | true => some (Uk a b) | false => none
    | some .string, .str a, .str b => some (dM a b)
    | some (.pointer _), .nilp, .nilp => some true
    | some (.pointer _), .nilp, .ptr _ _ => some false
    | some (.pointer _), .ptr _ _, .nilp => some false
    | some (.pointer e), .ptr a i, .ptr b j =>
      match E.size e with
      | none => none
      | some 0 => none
      | some (_ + 1) =>
        match H.row a, H.row b with
        | some _, some _ => match Nat.beq a b with | true => some (Nat.beq i j) | false => none
        | _, _ => none
    | some (.map _ _), .nilmap, .nilmap => some true
    | some (.map _ _), .nilmap, .map _ => some false
    | some (.map _ _), .map _, .nilmap => some false
    | some (.slice _), .nilslice, .nilslice => some true
    | some (.slice _), .nilslice, .slice _ _ _ _ _ => some false
    | some (.slice _), .slice _ _ _ _ _, .nilslice => some false
    | some (.slice _), .nilslice, .esl _ _ _ => some false
    | some (.slice _), .esl _ _ _, .nilslice => some false
    | some (.slice _), .nilslice, .osl _ _ => some false
    | some (.slice _), .osl _ _, .nilslice => some false
    | some (.slice _), .nilslice, .psl _ _ _ _ _ => some false
    | some (.slice _), .psl _ _ _ _ _, .nilslice => some false
    | some (.func _ _ _), .nilfn, .nilfn => some true
    | some (.func _ _ _), .nilfn, .fn _ _ _ => some false
    | some (.func _ _ _), .fn _ _ _, .nilfn => some false
    | some (.interface _), .niliface, .niliface => some true
    | some (.interface _), .niliface, .iface _ _ => some false
    | some (.interface _), .iface _ _, .niliface => some false
    | some (.interface _), .iface ta va, .iface tb vb =>
      match Nat.beq ta tb with
      | false => some false
      | true =>
        match E.types.get ta with
        | none => none
        | some i => match i.comparable with | true => Qg E H f ta va vb | false => none
    | some (.struct fs), .agg xs, .agg ys => match E.P.stoodInHeld t with | true => none | false => Zp E H f fs.toList xs ys
    | some (.array n e), .agg xs, .agg ys =>
      match E.size e with
      | none => none
      | some s => Qs E H f e s (List.range n) xs ys
    | _, _, _ => none) (o8 E t x y)
def Zp (E:Env) (H:Heap):Nat→List Field→List zd→List zd→Option Bool
 | 0,_,_,_=>none
 | _+1,[],_,_=>some true
 | f+1,d::ds,xs,ys=>
  ifB (d.name == "_") none (bnd (E.apart d.type xs d.offset) fun a=>bnd (E.apart d.type ys d.offset) fun b=>
   bnd (Qg E H f d.type a b) fun r=>ifB r (Zp E H f ds xs ys) (some false))
def Qs (E:Env) (H:Heap):Nat→TypeId→Nat→List Nat→List zd→List zd→Option Bool
 | 0,_,_,_,_,_=>none
 | _+1,_,_,[],_,_=>some true
 | f+1,e,s,i::is,xs,ys=>
  bnd (E.apart e xs (Nat.mul i s)) fun a=>bnd (E.apart e ys (Nat.mul i s)) fun b=>
   bnd (Qg E H f e a b) fun r=>ifB r (Qs E H f e s is xs ys) (some false)
end
def isConst (o:Operand):Bool:=match o with | .const _=>true | _=>false
def ae (E:Env) (t:TypeId) (x y:Operand) (a:zd):Bool:=
 match a with
 | .niliface=>ifB (isConst x) true (isConst y)
 | .agg _=>kU (E.P.eqGuardType E.P.depth t)
 | _=>true
def FL (E:Env) (H:Heap) (t:TypeId) (x y:Operand) (a b:zd) (f:Bool→Bool):Option zd:=
 ifB (ae E t x y a) (bnd (Qg E H 10000 t a b) fun r=>some (kL (f r))) none
def lR (op:BinOp):Option (Bool→Bool):=match op with | .eql=>some (fun b=>b) | .neq=>some kU | _=>none
def wg (op:BinOp):Bool:=match op with | .gtr=>true | _=>false
def wC (op:BinOp) (m:Int) (b:zd):Option zd:=
 match b with
 | .capv _ c=>ifB (wg op) (Jq m fun m=>ifB (Nat.ble m c) (some (.bool false)) none) none
 | _=>none
def DP (E:Env) (H:Heap) (op:BinOp) (t:TypeId) (x y:Operand) (a b:zd):Option zd:=
 bnd (lR op) fun f=>FL E H t x y a b f
def wE (E:Env) (H:Heap) (op:BinOp) (t:TypeId) (x y:Operand) (a b:zd):Option zd:=
 zt (qR a) (DP E H op t x y a b) fun m=>bnd (qR b) fun n=>vG op m n
def DQ (op:BinOp) (k:IntKind) (m:Int) (b:zd):Option zd:=ifB (WK k) (wC op m b) none
def fm (E:Env) (op:BinOp) (t:TypeId) (a b:zd):Option zd:=
 zt (findF (Kf op a b) E.facts) (bnd (lR op) fun f=>bnd (o8 E t a b) fun r=>some (kL (f r))) some
def Ce (E : Env) (H : Heap) (op : BinOp) (t : TypeId) (x y : Operand) (a b : zd) : Option zd := ifB (zH (kU (ZO a)) (kU (ZO b)))
 (  zt (asInt a) (wE E H op t x y a b) fun p => zt (asInt b) (DQ op p.1 p.2 b) fun q => wk op p.1 p.2 q.1 q.2) (fm E op t a b)
def inB {α:Type u} (i:Int) (n:Nat) (f:Nat→Option α):Option α:=yf i (fun m=>ifB (Nat.blt m n) (f m) none) fun _=>none
def ja {α:Type u} (v:Option zd) (dflt most:Nat) (f:Nat→Option α):Option α:=
 zt v (f dflt) fun v=>bnd (Jy v) fun i=>Jq i fun m=>ifB (Nat.ble m most) (f m) none
def JY (v:zd):Option Nat:=bnd (asInt v) fun p=>ifB (br p.1) (Jq p.2 fun n=>some (Nat.mod n 256)) none
def Xg (p:zd→Option Nat) (l:List zd):List Nat→Option (List Nat):=List.rec (motive:=fun _=>List Nat→Option (List Nat)) (fun acc=>some acc) (fun v _ ih acc=>bnd (p v) fun b=>ih (b::acc)) l
def tW (l:List Nat):List Nat→List Nat:=List.rec (motive:=fun _=>List Nat→List Nat) (fun acc=>acc) (fun a _ ih acc=>frc 0 fun _=>ih (a::acc)) l
def Qp (p:zd→Option Nat) (l:List zd):Option (List Nat):=bnd (Xg p l []) fun r=>some (tW r [])
def Xh (l:List zd):Option (List Nat):=Qp JY l
def u8 (b:Nat):zd:=.int .u8 (.ofNat b)
def fk (E:Env) (x:zd) (lo hi mx:Option zd):Option zd:=
 zt mx (zt hi none fun h=>zt lo (findF (rG x (.int .i64 (.ofNat 0)) h) E.facts) fun l=>findF (rG x l h) E.facts) fun _=>none
def pn (s:List Nat) (lo hi mx:Option zd):Option zd:=
 zt mx (ja hi (qT s 0) (qT s 0) fun h=>ja lo 0 h fun l=>some (.str (ag l (VM h s)))) fun _=>none
def YS (b off h l m sz:Nat) (ex:Bool):Option zd:=
 ifB (Nat.beq m l)
  (ifB ex (some (.slice b off (Nat.sub h l) (Nat.sub m l) true)) (frc (Nat.add off (Nat.mul l sz)) fun o=>some (.esl b off o)))
  (frc (Nat.add off (Nat.mul l sz)) fun o=>frc (Nat.sub h l) fun n=>frc (Nat.sub m l) fun c=>some (.slice b o n c ex))
def YK (s:Sl) (sz:Nat) (lo hi mx:Option zd):Option zd:=
 ja mx s.cap s.cap fun m=>ja hi s.len m fun h=>ja lo 0 h fun l=>YS s.b s.off h l m sz (zt mx s.ex fun _=>true)
def cR (lo hi mx:Option zd):Option zd:=
 ja mx 0 0 fun m=>ja hi 0 m fun h=>ja lo 0 h fun _=>some .nilslice
def pq (n sz b off:Nat) (lo hi mx:Option zd):Option zd:=
 ja mx n n fun m=>ja hi n m fun h=>ja lo 0 h fun l=>YS b off h l m sz true
def isZ (o:Option zd):Bool:=zt o true fun v=>zt (Jy v) false fun i=>Uk i (.ofNat 0)
def po (b:Nat) (v:zd) (lo hi mx:Option zd):Option zd:=
 ifB (isZ lo) (zt mx (zt hi (some (.osl b v)) fun _=>none) fun _=>zt hi none fun _=>ifB (zH (isZ mx) (isZ hi)) (some (.slice b 0 0 0 true)) none) none
def ma (v:zd):Option Nat:=match v with | .sym i=>some i | _=>none
def rN (q:Nat) (f:Fact):Option (Nat×Nat):=match f with | .num p lo hi=>ifB (Nat.beq q p) (some (lo,hi)) none | _=>none
def rQ (q m:Nat) (f:Fact):Option Nat:=match f with | .diff p k r=>ifB (zH (Nat.beq q p) (Nat.beq m k)) (some r) none | _=>none
def cQ (E:Env) (s:Sl) (lo hi mx:Option zd):Option zd:=
 zt mx (bnd hi fun h=>bnd (ma h) fun q=>bnd (findF (rN q) E.facts) fun n=>ifB (zH (isZ lo) (zH (Nat.blt 0 s.cap) (Nat.ble n.2 s.cap))) (some (.psl s.b s.off q s.cap s.ex)) none) fun _=>none
def VS (E:Env) (p:Psl) (sz:Nat) (lo hi mx:Option zd):Option zd:=
 zt mx
  (zt hi
   (ifB (zH (isZ lo) (Nat.blt 0 p.c)) (some (.psl p.b p.o p.q p.c p.ex))
    (bnd lo fun l=>bnd (Jy l) fun i=>Jq i fun m=>bnd (findF (rN p.q) E.facts) fun n=>ifB (zH (Nat.blt m p.c) (Nat.ble m n.1))
     (bnd (findF (rQ p.q m) E.facts) fun q=>frc (Nat.add p.o (Nat.mul m sz)) fun o=>frc (Nat.sub p.c m) fun c=>some (.psl p.b o q c p.ex)) none))
   fun h=>ja (some h) 0 p.c fun k=>ja lo 0 k fun l=>YS p.b p.o k l p.c sz p.ex)
  fun _=>none
def cP (E:Env) (x:zd) (lo hi mx:Option zd):Option zd:=
 zt mx (ifB (isZ lo) (bnd hi fun h=>findF (rI x h) E.facts) none) fun _=>none
def vm (E:Env) (t:TypeId) (x:zd) (lo hi mx:Option zd):Option zd:=
 bnd (E.desc t) fun d=>
  zt (jy d)
   (zt (yw d)
    (ifB (jJ d) (zt (qR x) (fk E x lo hi mx) fun s=>pn s lo hi mx) none)
    fun q=>bnd (E.size q.2) fun sz=>bnd (ZS x) fun p=>pq q.1 sz p.1 p.2 lo hi mx)
   fun e=>bnd (E.size e) fun sz=>zt (jN x) (ifB (jB x) (cR lo hi mx) (zt (yL x) (zt (ay x) (cP E x lo hi mx) fun p=>VS E p sz lo hi mx) fun p=>po p.1 p.2 lo hi mx)) fun s=>zt (bnd hi ma) (YK s sz lo hi mx) fun _=>cQ E s lo hi mx
def pX (hi mx:Option zd):Bool:=zt mx true fun _=>zt hi false fun _=>true
def td (E:Env) (t:TypeId) (x:zd) (lo hi mx:Option zd):Option zd:=
 ifB (pX hi mx) (vm E t x lo hi mx) none
def kr (H:Heap) (sz:Nat) (x:zd):Option (Nat×List zd):=
 zt (jN x)
  (zt (qR x) (ifB (jB x) (some (0,[])) none) fun s=>some (qT s 0,mapA u8 s))
  fun s=>bnd (H.jM s.b s.off (Nat.mul s.len sz)) fun l=>some (s.len,l)
def roomy (n bytes:Nat):Bool:=zH (Nat.ble (Nat.mul n bytes) 1000000000) (Nat.ble n 1000000000)
def yQ (H:Heap) (e:TypeId) (n:Nat) (l:List zd):R:=ifB (ZF kn l) (frc n fun n=>fV H e l fun m=>.slice m 0 n n false) none
def yd (H:Heap) (e:TypeId) (sz:Nat) (s:Sl) (n:Nat) (new:List zd):R:=
 bnd (H.row s.b) fun r=>bnd (Tr.bC (Nat.mul s.len sz) r.c s.off) fun old=>
  ifB s.ex (yQ H e (Nat.add s.len n) (jv old new))
   (ifB (zH (Nat.ble 100 s.b) (zH (Nat.beq r.t e) (zH (Nat.beq (Nat.mod s.off sz) 0) (Nat.beq (Nat.add s.off (Nat.mul s.cap sz)) r.n)))) (yQ ⟨H.blk.del s.b,H.next⟩ e (Nat.add s.len n) (jv old new)) none)
def tight (t:Tr zd):Nat→Bool:=
 Tr.rec (motive:=fun _=>Nat→Bool) (fun n=>Nat.beq n 0)
  (fun _ v _ il ir n=>Q9 n false fun m=>zt v false fun a=>ifB (kn a) (frc (Nat.div (Nat.succ m) 2) fun p=>frc (Nat.div m 2) fun q=>ifB (il p) (ir q) false) false) t
def VE (H:Heap) (e:TypeId) (n N:Nat) (c:Tr zd) (new:List zd):R:=
 ifB (ZF kn new) (frc n fun n=>frc H.next fun m=>frc (Nat.add N (qT new 0)) fun k=>some (.slice m 0 n n false,⟨H.blk.set m (.cells e k (Tr.mT new c N)),Nat.succ m⟩)) none
def ck (H:Heap) (e:TypeId) (sz:Nat) (s:Sl) (n:Nat) (new:List zd):R:=
 bnd (H.row s.b) fun r=>frc (Nat.mul s.len sz) fun N=>ifB (zH (Nat.beq s.off 0) (tight r.c N))
  (ifB s.ex (VE H e (Nat.add s.len n) N r.c new)
   (ifB (zH (Nat.ble 100 s.b) (zH (Nat.beq r.t e) (zH (Nat.beq (Nat.mod s.off sz) 0) (Nat.beq (Nat.add s.off (Nat.mul s.cap sz)) r.n)))) (VE ⟨H.blk.del s.b,H.next⟩ e (Nat.add s.len n) N r.c new) none))
  (yd H e sz s n new)
def tj (H:Heap) (sz:Nat) (s:Sl) (n:Nat) (new:List zd):R:=
 bnd (H.Zq s.b (Nat.add s.off (Nat.mul s.len sz)) new) fun H'=>frc (Nat.add s.len n) fun m=>some (.slice s.b s.off m s.cap s.ex,H')
def jX (E:Env) (e:TypeId) (sz:Nat):Bool:=zt (E.zero e) false fun z=>Nat.beq (qT (zP z) 0) sz
def Wh (E:Env) (H:Heap) (e:TypeId) (i:TypeInfo) (s:zd) (n:Nat) (new:List zd):R:=
 zt (jN s)
  (ifB (jB s) (Q9 n (some (.nilslice,H)) fun _=>ifB (zH (jX E e i.size) (roomy n i.bytes)) (yQ H e n new) none) none)
  fun q=>ifB (Nat.ble (Nat.add q.len n) q.cap) (tj H i.size q n new)
   (ifB (zH (jX E e i.size) (roomy (Nat.add q.len n) i.bytes)) (yd H e i.size q n new) none)
def ti (E:Env) (H:Heap) (e:TypeId) (i:TypeInfo) (s:zd) (n:Nat) (new:List zd):R:=
 zt (jN s)
  (ifB (jB s) (Q9 n (some (.nilslice,H)) fun _=>ifB (zH (jX E e i.size) (roomy n i.bytes)) (yQ H e n new) none) none)
  fun q=>ifB (Nat.ble (Nat.add q.len n) q.cap) (tj H i.size q n new)
   (ifB (zH (jX E e i.size) (roomy (Nat.add q.len n) i.bytes)) (ck H e i.size q n new) none)
def isInt (d:TypeDesc):Bool:=match d with | .int _=>true | _=>false
def ot (E:Env) (e:TypeId) (i:TypeInfo) (x:zd):Option (Nat×List zd):=
 bnd (asInt x) fun q=>ifB (WK q.1) (Jq q.2 fun n=>ifB (roomy n i.bytes)
  (bnd (E.zero e) fun z=>ifB (Nat.beq (qT (zP z) 0) i.size) (some (n,yY (zP z) n)) none) none) none
def Xi (v:zd):Option Nat:=bnd (asInt v) fun p=>ifB (br p.1) (Jq p.2 fun n=>ifB (Nat.blt n 256) (some n) none) none
def yJ (l:List zd):Option (List Nat):=Qp Xi l
def pkL (H:Heap) (q:Sl):Option (List Nat):=
 bnd (H.blk.get q.b) fun b=>bnd (bX b) fun p=>ifB (Nat.ble (Nat.add q.off q.len) p.n) (frc (Qy p.N q.off q.len) fun N=>some (unpL q.len N)) none
def Qx (E:Env) (H:Heap) (x:zd):Option zd:=
 zt (yL x)
  (zt (jN x)
   (ifB (jB x) (some (.str [])) (ifB (ZO x) (bnd (findF (Uj x) E.facts) fun _=>some x) (bnd (qR x) fun _=>some x)))
   fun s=>zt (pkL H s) (ifB (Nat.beq s.len 0) (some (.str [])) (bnd (H.jM s.b s.off s.len) fun cs=>zt (yJ cs) (findF (lA cs) E.facts) fun l=>some (.str l))) fun l=>some (.str l))
  fun p=>bnd (H.blk.get p.1) fun b=>bnd (bW b) fun q=>ifB (qs q.2 p.2) (some p.2) none
def Y0 (v:zd):Bool:=zt (qR v) false fun s=>lC s true fun _ _=>false
def vg (E:Env) (a b:zd):Option zd:=
 ifB (Y0 a) (some b) (zt (qR a) (findF (Kf .add a b) E.facts) fun s=>zt (qR b) (findF (Kf .add a b) E.facts) fun t=>some (.str (jv s t)))
def cO (E:Env) (v:zd):Bool:=zt (qR v) (zt (findF (mEq 2 v (.str [])) E.facts) false kU) fun s=>lC s false fun _ _=>true
def aR (E:Env) (v:zd):Bool:=
 zt (qR v) (zt (findF (Uj v) E.facts) false fun l=>zt (asInt l) (zt (findF (Kf .gtr l (.int .i64 (.ofNat 1000000000))) E.facts) false fun r=>zt (asBool r) false kU) fun p=>kU (ilt (.ofNat 1000000000) p.2)) fun s=>Nat.ble (qT s 0) 1000000000
def xx (H:Heap) (e:TypeId) (c:zd):R:=frc H.next fun m=>some (.osl m c,⟨H.blk.set m (.text e c),Nat.succ m⟩)
def lT (H:Heap) (e:TypeId) (s:zd):Option Heap:=
 zt (yL s)
  (zt (jN s) (ifB (jB s) (some H) none)
   fun q=>ifB q.ex (ifB (Nat.beq q.len q.cap) (some H) none)
    (bnd (H.row q.b) fun r=>ifB (zH (Nat.ble 100 q.b) (zH (Nat.beq r.t e) (zH (Nat.beq q.off 0) (Nat.beq q.cap r.n)))) (some ⟨H.blk.del q.b,H.next⟩) none))
  fun p=>bnd (H.blk.get p.1) fun b=>bnd (bW b) fun q=>ifB (zH (Nat.ble 100 p.1) (Nat.beq q.1 e)) (some ⟨H.blk.del p.1,H.next⟩) none
def B6 (E:Env) (H:Heap) (e:TypeId) (s x:zd):R:=
 bnd (E.desc e) fun d=>bnd (Jv d) fun k=>bnd (E.types.get e) fun i=>ifB (zH (br k) (zH (Nat.beq i.size 1) (zH (Nat.beq i.bytes 1) (jX E e 1))))
  (bnd (Qx E H s) fun a=>bnd (Qx E H x) fun b=>bnd (lT H e s) fun H'=>ifB (Y0 b) (some (s,H))
   (ifB (cO E b) (bnd (vg E a b) fun c=>ifB (aR E c) (xx H' e c) none) none)) none
def tg (b:zJ):Option (TypeId×zd):=zJ.rec (fun _ _ _=>none) (fun _ _=>none) (fun _ _ _ _ _ _ _ _=>none) (fun _ _=>none) (fun _ _=>none) (fun _ _ _=>none) (fun t v=>some (t,v)) (fun _=>none) b
def fE (E:Env) (v:zd):Bool:=
 zt (qR v) (zt (findF (Uj v) E.facts) false fun l=>zt (findF (Kf .gtr l (.int .i64 (.ofNat 100000000))) E.facts) false fun r=>zt (asBool r) false kU) fun s=>Nat.ble (qT s 0) 100000000
def Cz (H:Heap) (e:TypeId) (c:zd):R:=frc H.next fun m=>some (.osl m c,⟨H.blk.set m (.ints e c),Nat.succ m⟩)
def DK (E:Env) (H:Heap) (e:TypeId) (s x:zd):R:=
 bnd (E.desc e) fun d=>bnd (Jv d) fun k=>bnd (E.types.get e) fun i=>ifB (zH (WK k) (zH (Nat.beq i.size 1) (zH (Nat.ble i.bytes 8) (jX E e 1))))
  (bnd (jN s) fun q=>ifB (zH q.ex (Nat.beq q.cap 0)) (bnd (yL x) fun p=>bnd (H.blk.get p.1) fun b=>bnd (tg b) fun r=>
   ifB (zH (qs r.2 p.2) (zH (cO E p.2) (fE E p.2))) (Cz H e p.2) none) none) none
def sg (_:Heap) (x:zd):Bool:=ifB (ZO x) true (zt (yL x) false fun _=>true)
def Wk (E:Env) (H:Heap) (sT xT:TypeId) (s x:zd):R:=
 bnd (E.desc sT) fun d=>bnd (jy d) fun e=>bnd (E.desc xT) fun xd=>
  (bnd (E.types.get e) fun i=>bnd (ifB (isInt xd) (ot E e i x) (kr H i.size x)) fun p=>ifB (Nat.beq (qT p.2 0) (Nat.mul p.1 i.size)) (Wh E H e i s p.1 p.2) none)
def eU (E:Env) (H:Heap) (sT xT:TypeId) (s x:zd):R:=
 bnd (E.desc sT) fun d=>bnd (jy d) fun e=>bnd (E.desc xT) fun xd=>
  (bnd (E.types.get e) fun i=>bnd (ifB (isInt xd) (ot E e i x) (kr H i.size x)) fun p=>ifB (Nat.beq (qT p.2 0) (Nat.mul p.1 i.size)) (ti E H e i s p.1 p.2) none)
def pvS (H:Heap) (q:Sl):Option (Nat×Nat):=
 bnd (H.blk.get q.b) fun b=>zt (bX b)
  (bnd (H.jM q.b q.off q.len) fun l=>bnd (yJ l) fun bs=>some (q.len,Q5 bs 0 0))
  fun p=>ifB (Nat.ble (Nat.add q.off q.len) p.n) (some (q.len,Qy p.N q.off q.len)) none
def pv (H:Heap) (x:zd):Option (Nat×Nat):=
 zt (jN x) (ifB (jB x) (some (0,0)) (bnd (qR x) fun s=>some (qT s 0,Q5 s 0 0))) fun q=>pvS H q
def YO (H:Heap) (e:TypeId) (n N:Nat):R:=frc n fun n=>frc N fun N=>frc H.next fun m=>some (.slice m 0 n n false,⟨H.blk.set m (.pack e n N),Nat.succ m⟩)
def pR (H:Heap) (q:Sl) (m M:Nat):R:=
 bnd (H.blk.get q.b) fun b=>bnd (bX b) fun p=>frc (Nat.add q.off q.len) fun o=>ifB (zH (Nat.ble 100 q.b) (Nat.ble (Nat.add o m) p.n))
  (frc (Wa o (Qy p.N 0 o) (Wa m M (Nat.shiftRight p.N (Nat.mul 8 (Nat.add o m))))) fun N=>frc (Nat.add q.len m) fun l=>some (.slice q.b q.off l q.cap q.ex,⟨H.blk.set q.b (.pack p.t p.n N),H.next⟩)) none
def fL (H : Heap) (e : TypeId) (s : zd) (p : Nat × Nat) : R :=
    zt (jN s) (ifB (jB s) (Q9 p.1 none fun _ => ifB (roomy p.1 1) (YO H e p.1 p.2) none) none)
      fun q => ifB (Nat.ble (Nat.add q.len p.1) q.cap) (pR H q p.1 p.2)
        (ifB (roomy (Nat.add q.len p.1) 1) (bnd (pvS H q) fun a => frc (Wa q.len a.2 p.2) fun N => ifB q.ex (YO H e (Nat.add q.len p.1) N)
          (bnd (H.row q.b) fun r => ifB (zH (Nat.ble 100 q.b) (zH (Nat.beq r.t e) (Nat.beq (Nat.add q.off q.cap) r.n))) (YO ⟨H.blk.del q.b, H.next⟩ e (Nat.add q.len p.1) N) none)) none)
def pvN (E:Env) (e:TypeId) (x:zd):Option (Nat×Nat):=
 bnd (asInt x) fun q=>ifB (WK q.1) (Jq q.2 fun n=>ifB (roomy n 1) (bnd (E.zero e) fun z=>ifB (qs z (u8 0)) (some (n,0)) none) none) none
def ba (E:Env) (H:Heap) (sT xT:TypeId) (s x:zd):R:=
 bnd (E.desc sT) fun d=>bnd (jy d) fun e=>bnd (E.desc xT) fun xd=>bnd (E.types.get e) fun i=>bnd (E.desc e) fun ed=>bnd (Jv ed) fun k=>
  ifB (zH (br k) (zH (Nat.beq i.size 1) (zH (Nat.beq i.bytes 1) (jX E e 1)))) (bnd (ifB (isInt xd) (pvN E e x) (pv H x)) fun p=>fL H e s p) none
def cv (E:Env) (H:Heap) (sT xT:TypeId) (s x:zd):R:=
 ifB (zH (kU (sg H s)) (kU (sg H x))) (zt (ba E H sT xT s x) (eU E H sT xT s x) some)
  (bnd (E.desc sT) fun d=>bnd (jy d) fun e=>bnd (E.desc xT) fun xd=>ifB (isInt xd) none (zt (B6 E H e s x) (DK E H e s x) some))
def nr (a b:Nat):Nat:=ifB (Nat.ble a b) a b
def wD (E:Env) (H:Heap) (dT:TypeId) (d x:zd):R:=
 bnd (E.desc dT) fun t=>bnd (jy t) fun e=>bnd (E.size e) fun sz=>bnd (kr H sz x) fun p=>
  ifB (Nat.beq (qT p.2 0) (Nat.mul p.1 sz)) (zt (jN d) (ifB (jB d) (some (mkNat 0,H)) none) fun q=>
   bnd (H.Zq q.b q.off (VM (Nat.mul (nr p.1 q.len) sz) p.2)) fun H'=>some (mkNat (nr p.1 q.len),H')) none
def xY (H:Heap) (x:zd):Option zd:=bnd (eF x) fun r=>bnd (H.blk.get r) fun b=>bnd (bY b) fun m=>some (mkNat (qT m.1 0))
def YZ (v:zd):Bool:=match v with | .nilmap=>true | _=>false
def CX (E:Env) (H:Heap) (d:TypeDesc) (x:zd):Option zd:=
 zt (yw d)
  (zt (nY d) (bnd (gJ d) fun a=>bnd (E.desc a) fun d=>bnd (yw d) fun q=>some (mkNat q.1))
   fun _=>ifB (YZ x) (some (mkNat 0)) (xY H x))
  fun q=>some (mkNat q.1)
def DL (E:Env) (H:Heap) (t:TypeId) (x:zd):Option zd:=
 bnd (E.desc t) fun d=>zt (jy d) (ifB (jJ d) (zt (qR x) (findF (Uj x) E.facts) fun s=>some (mkNat (qT s 0))) (CX E H d x))
  fun _=>zt (jN x) (ifB (jB x) (some (mkNat 0)) (ifB (wj x) (some (mkNat 0)) (zt (yL x) (zt (ay x) (findF (rK x) E.facts) fun p=>some (.sym p.q)) fun p=>zt (qR p.2) (findF (Uj p.2) E.facts) fun s=>some (mkNat (qT s 0))))) fun s=>some (mkNat s.len)
def DO (E:Env) (t:TypeId) (x:zd):Option zd:=
 bnd (E.desc t) fun d=>bnd (jy d) fun _=>zt (jN x) (ifB (jB x) (some (mkNat 0)) none) fun s=>some (ifB s.ex (mkNat s.cap) (.capv s.b s.cap))
def B8 (l:List zd):zd→Option zd:=
 List.rec (motive:=fun _=>zd→Option zd) some
  (fun b _ ih a=>bnd (asInt a) fun p=>bnd (asInt b) fun q=>ih (.int p.1 (ifB (ilt q.2 p.2) q.2 p.2))) l
def Ca (l:List zd):zd→Option zd:=
 List.rec (motive:=fun _=>zd→Option zd) some
  (fun b _ ih a=>bnd (asInt a) fun p=>bnd (asInt b) fun q=>ih (.int p.1 (ifB (ilt p.2 q.2) q.2 p.2))) l
def tq (E:Env) (H:Heap) (t:TypeId) (x:zd):R:=
 bnd (E.desc t) fun d=>bnd (jy d) fun e=>zt (jN x) (ifB (jB x) (some (qN,H)) none) fun q=>
  Q9 q.len (some (qN,H)) fun _=>bnd (E.zero e) fun z=>bnd (H.Zq q.b q.off (yY (zP z) q.len)) fun H'=>some (qN,H')
def Yy (H:Heap) (x:zd):R:=
 zt (jN x) (ifB (jB x) (some (.nilp,H)) none) fun s=>Q9 s.cap none fun _=>some (.ptr s.b s.off,H)
def cw (E:Env) (H:Heap) (pt:TypeId) (p:zd) (n:Nat):R:=
 Q9 n (ifB (gm p) (some (.str [],H)) (bnd (ZS p) fun _=>some (.str [],H))) fun _=>
  bnd (ZS p) fun q=>bnd (E.desc pt) fun d=>bnd (gJ d) fun u=>bnd (E.size u) fun s=>bnd (H.row q.1) fun r=>
   ifB (zH (Nat.ble 100 q.1) (zH (Nat.beq s 1) (zH (Nat.beq r.t u) (Nat.ble (Nat.add q.2 n) r.n))))
    (bnd (Tr.bC n r.c q.2) fun cs=>bnd (Xh cs) fun l=>some (.str l,⟨H.blk.del q.1,H.next⟩)) none
def l1 {α:Type u}{β:Type} (l:List β) (r:Option α):Option α:=lC l r fun _ _=>none
def Xq (E:Env) (H:Heap) (b:Builtin) (ts:List TypeId) (args:List zd):R:=
 lC args none fun x r=>lC ts none fun t us=>
  match b with
  | .append=>lC r none fun y q=>lC us none fun u vs=>l1 q (l1 vs (cv E H t u x y))
  | .copy=>lC r none fun y q=>l1 q (wD E H t x y)
  | .len=>yh H (DL E H t x)
  | .cap=>yh H (DO E t x)
  | .min=>yh H (zt (B8 r x) (lC r none fun y q=>l1 q (findF (xQ x y) E.facts)) some)
  | .max=>yh H (zt (Ca r x) (lC r none fun y q=>l1 q (findF (xR x y) E.facts)) some)
  | .clear=>l1 r (tq E H t x)
  | .unsafeSliceData=>l1 r (Yy H x)
  | .unsafeString=>lC r none fun y q=>lC us none fun _ vs=>l1 q (l1 vs (bnd (asInt y) fun p=>ifB (WK p.1) (Jq p.2 fun n=>ifB (Nat.ble n 1000000000) (cw E H t x n) none) none))
  | _=>none
def Gn (k:IntKind) (x:zd) (H:Heap):R:=bnd (Jy x) fun n=>some (mkInt k (Jx k n),H)
def cT (E:Env) (e:TypeId):Bool:=zt (E.size e) false fun s=>Nat.beq s 1
def gX (E:Env) (H:Heap) (e:TypeId) (s:List Nat):R:=
 bnd (E.desc e) fun d=>bnd (Jv d) fun k=>ifB (zH (br k) (cT E e)) (frc (qT s 0) fun n=>fV H e (mapA u8 s) fun m=>.slice m 0 n n false) none
def l8 (E:Env) (H:Heap) (e:TypeId) (x:zd):R:=
 bnd (E.desc e) fun d=>bnd (Jv d) fun k=>ifB (br k)
  (zt (jN x) (ifB (jB x) (some (.str [],H)) (bnd (yL x) fun _=>bnd (Qx E H x) fun v=>some (v,H))) fun s=>zt (pkL H s) (bnd (H.jM s.b s.off s.len) fun cs=>bnd (Xh cs) fun l=>some (.str l,H)) fun l=>some (.str l,H)) none
def aq (E:Env) (H:Heap) (t:TypeId) (x:zd):R:=
 bnd (ZS x) fun p=>bnd (E.size t) fun s=>bnd (H.row p.1) fun r=>Q9 s none fun _=>ifB (Nat.blt p.2 r.n) (some (x,H)) none
def WV (E:Env) (H:Heap) (u:TypeId) (x:zd):R:=
 bnd (ZS x) fun p=>bnd (E.size u) fun s=>bnd (H.row p.1) fun r=>Q9 s none fun _=>
  ifB (zH (Nat.beq r.t u) (zH (Nat.beq (Nat.mod p.2 s) 0) (Nat.ble (Nat.add p.2 s) r.n))) (some (x,H)) none
def Gm (E:Env) (H:Heap) (dd:TypeDesc) (x:zd):R:=
 bnd (qR x) fun s=>ifB (jJ dd) (some (x,H)) (bnd (jy dd) fun e=>gX E H e s)
def gW (E:Env) (H:Heap) (sd dd:TypeDesc) (x:zd):R:=
 zt (jy sd)
  (zt (gJ sd) (ifB (bL sd) (bnd (gJ dd) fun u=>WV E H u x) none)
   fun t=>ifB (bL dd) (aq E H t x) none)
  fun e=>ifB (jJ dd) (l8 E H e x) none
def eS (E:Env) (H:Heap) (src dst:TypeId) (x:zd):R:=
 bnd (E.desc dst) fun dd=>bnd (E.desc src) fun sd=>
  zt (asInt x) (ifB (jJ sd) (Gm E H dd x) (gW E H sd dd x)) fun _=>bnd (Jv dd) fun k=>Gn k x H
def iO (E:Env) (H:Heap) (src dst:TypeId) (x:zd):R:=
 bnd (E.desc dst) fun dd=>bnd (E.desc src) fun sd=>zt (Jv dd) (ifB (jJ sd) (bnd (findF (Uj x) E.facts) fun _=>ifB (jJ dd) (some (x,H)) (bnd (jy dd) fun e=>bnd (E.desc e) fun d=>bnd (Jv d) fun k=>ifB (zH (br k) (cT E e)) (xx H e x) none)) none)
  fun k=>ifB (isInt sd) (bnd (findF (rS k x) E.facts) fun r=>some (r,H)) none
abbrev Xu:=List (zd×zd×Nat)
def jE (v:zd):Bool:=match v with | .bool _=>true | .int _ _=>true | .str _=>true | _=>false
def WH (v:zd):Bool:=match v with | .agg l=>ZF jE l | v=>jE v
def lG (E:Env) (H:Heap) (t:TypeId) (k x:zd):Option Bool:=
 zt (qR k) (Qg E H 10000 t k x) fun a=>bnd (qR x) fun b=>some (dM a b)
def lv (E:Env) (H:Heap) (t:TypeId) (k:zd) (es:Xu):Option (Option zd):=
 List.rec (some none) (fun e _ ih=>bnd (lG E H t k e.1) fun r=>ifB (qs k e.1) (ifB r (some (some e.2.1)) none) (ifB r none ih)) es
def uo (k:zd) (v:zd) (es:Xu):Xu:=List.rec [] (fun e l ih=>ifB (qs k e.1) ((e.1,v,e.2.2)::l) (e::ih)) es
def Heap.BE (H:Heap) (x:zd):Option Xu:=ifB (YZ x) (some []) (bnd (eF x) fun r=>bnd (H.blk.get r) fun b=>bnd (bY b) fun m=>some m.1)
def Jo (ok:Bool) (v:zd) (is:Bool):zd:=ifB ok (.tuple [v,.bool is]) v
def QB (E:Env) (t:TypeId):Bool:=zt (E.desc t) false fun d=>ifB (jJ d) true (zt (Jv d) false fun _=>true)
def Qo (E:Env) (l:List zd) (fs:List Field):Bool:=
 List.rec true (fun f _ ih=>zH (zH (QB E f.type) (zt (E.apart f.type l f.offset) false jE)) ih) fs
def YW (E:Env) (e:TypeId) (s:Nat) (l:List zd) (is:List Nat):Bool:=
 List.rec true (fun i _ ih=>zH (zt (E.apart e l (Nat.mul i s)) false jE) ih) is
def gl (E:Env) (l:List zd) (q:Nat×TypeId):Bool:=zH (QB E q.2) (zt (E.size q.2) false fun s=>YW E q.2 s l (List.range q.1))
def JR (E:Env) (d:TypeDesc) (k:zd):Bool:=
 match k with
 | .str _=>jJ d
 | .int _ _=>zt (Jv d) false fun _=>true
 | .agg l=>zH (ZF jE l) (zt (k8 d) (zt (yw d) false fun q=>gl E l q) fun fs=>Qo E l fs)
 | _=>false
def mh (E:Env) (H:Heap) (t:TypeId) (x k:zd) (ok:Bool):Option zd:=
 bnd (E.desc t) fun d=>bnd (nY d) fun q=>bnd (E.desc q.1) fun kd=>ifB (JR E kd k)
  (bnd (H.BE x) fun es=>bnd (lv E H q.1 k es) fun f=>zt f (bnd (E.zero q.2) fun z=>some (Jo ok z false)) fun v=>some (Jo ok v true)) none
def rC (H:Heap) (r:Nat) (k:zd) (v:zd) (es:Xu) (c:Nat) (f:Option zd):Heap:=
 zt f ⟨H.blk.set r (.map (jv es [(k,v,c)]) (Nat.succ c)),H.next⟩ fun _=>⟨H.blk.set r (.map (uo k v es) c),H.next⟩
def KV (E:Env) (H:Heap) (t:TypeId) (m k v:zd):Option Heap:=
 bnd (E.desc t) fun d=>bnd (nY d) fun q=>bnd (E.desc q.1) fun kd=>ifB (JR E kd k)
  (bnd (eF m) fun r=>bnd (H.blk.get r) fun b=>bnd (bY b) fun p=>ifB (Nat.ble 100 r) (bnd (lv E H q.1 k p.1) fun f=>some (rC H r k v p.1 p.2 f)) none) none
def kl {α:Type} (N d id:Nat) (f:Nat→α):α:=ifB (Nat.blt id N) (f id) (frc (Nat.add d (Nat.sub id N)) f)
def shV (N d:Nat) (v:zd):zd:=
 @zd.rec (fun _=>zd) (fun _=>List zd)
  (fun b=>.bool b) (fun k n=>.int k n) (fun s=>.str s) .nilp (fun b o=>kl N d b fun m=>.ptr m o) .nilslice (fun b o l c x=>kl N d b fun m=>.slice m o l c x) .nilmap (fun r=>kl N d r fun m=>.map m)
  (fun f _ _ l m=>.fn f l m) (fun l=>kl N d l fun m=>.yieldf m) (fun b c=>kl N d b fun m=>.capv m c) .nilfn (fun t _ v=>.iface t v) .niliface (fun _ l=>.agg l) (fun _ l=>.tuple l) (fun i=>kl N d i fun m=>.sym m) (fun b o q=>kl N d b fun m=>.esl m o q) (fun b _ v=>kl N d b fun m=>.osl m v) (fun b o q c x=>kl N d b fun m=>kl N d q fun p=>.psl m o p c x)
  [] (fun _ _ a l=>a::l) v
def Qm {α β:Type} (f:α→β) (t:Tr α):Tr β:=Tr.rec .nil (fun _ v _ l r=>.node l (bnd v fun a=>some (f a)) r) t
def shB (N d:Nat) (b:zJ):zJ:=
 zJ.rec (fun t n c=>.cells t n (Qm (shV N d) c)) (fun es c=>.map (mapA (fun e=>(e.1,shV N d e.2.1,e.2.2)) es) c) (fun a b c e f g h i=>.loop a b c e f g h i) (fun s p=>.siter s p) (fun t v=>.text t (shV N d v)) (fun t n N=>.pack t n N) (fun t v=>.ints t (shV N d v)) (fun c=>.view (Qm (shV N d) c)) b
def Za (N d:Nat) (rows:List (Nat×zJ)):Tr zJ→Tr zJ:=
 List.rec (motive:=fun _=>Tr zJ→Tr zJ) (fun t=>t) (fun p _ ih t=>kl N d p.1 fun m=>ih (t.set m (shB N d p.2))) rows
def dF (g:FuncId) (as:List zd) (f:Fact):Option (Nat×Nat×List (Nat×zJ)×zd):=
 match f with | .make h bs N n rows r=>ifB (zH (Nat.beq g h) (yg as bs)) (some (N,n,rows,r)) none | .makeF p=>p g as | _=>none
def oD (H:Heap) (N n:Nat) (rows:List (Nat×zJ)) (r:zd):R:=
 ifB (Nat.ble N H.next) (frc H.next fun d=>frc (Nat.add d n) fun m=>some (shV N d r,⟨Za N d rows H.blk,m⟩)) none
def VI (args:List zd) (H:Heap):R:=
 lC args none fun a q=>l1 q (bnd (bZ a) fun p=>bnd (eF p.2) fun r=>bnd (H.blk.get r) fun b=>bnd (bY b) fun m=>
  frc H.next fun n=>some (.iface p.1 (.map n),⟨H.blk.set n (.map m.1 m.2),Nat.succ n⟩))
def KI (c:Nat) (s:List Nat):Nat:=List.rec 0 (fun b _ ih=>ifB (Nat.beq b c) (Nat.succ ih) ih) s
def oE (args:List zd) (H:Heap):R:=
 lC args none fun a r=>lC r none fun b q=>l1 q (bnd (qR a) fun s=>bnd (JY b) fun c=>some (mkInt .i64 (.ofNat (KI c s)),H))
def Xb (c:Nat) (s:List Nat):Nat→Int:=
 List.rec (motive:=fun _=>Nat→Int) (fun _=>.negSucc 0) (fun b _ ih i=>ifB (Nat.beq b c) (.ofNat i) (ih (Nat.succ i))) s
def VK (args:List zd) (H:Heap):R:=
 lC args none fun a r=>lC r none fun b q=>l1 q (bnd (qR a) fun s=>bnd (JY b) fun c=>some (mkInt .i64 (Xb c s 0),H))
def n7 (l:List Nat):List Nat→Int:=
 List.rec (motive:=fun _=>List Nat→Int) (fun m=>lC m (.ofNat 0) fun _ _=>.negSucc 0)
  (fun a _ ih m=>lC m (.ofNat 1) fun b m=>ifB (Nat.blt a b) (.negSucc 0) (ifB (Nat.beq a b) (ih m) (.ofNat 1))) l
def cG (args:List zd) (H:Heap):R:=
 lC args none fun a r=>lC r none fun b q=>l1 q (bnd (qR a) fun s=>bnd (qR b) fun t=>some (mkInt .i64 (n7 s t),H))
def Wp (e:TypeId) (args:List zd) (H:Heap):R:=
 lC args none fun a q=>l1 q (bnd (asInt a) fun p=>ifB (WK p.1) (Jq p.2 fun n=>ifB (Nat.ble n 1000000000)
  (frc H.next fun m=>frc n fun n=>some (.slice m 0 n n false,⟨H.blk.set m (.cells e n .nil),Nat.succ m⟩)) none) none)
def Cm (args:List zd) (H:Heap):R:=lC args none fun a q=>l1 q (some (a,H))
end
end
section
universe u
noncomputable section
inductive qQ where
 | fail
 | nrm (T:Tr zd) (H:Heap)
 | ex (id:Nat) (T:Tr zd) (H:Heap)
 | ret (T:Tr zd) (H:Heap)
structure Fr where
 n:Nat
 fn:FuncId
 ro:Option Nat
abbrev Rec:=Fr→Code→Tr zd→Heap→qQ
abbrev OpF:=Env→Rec→Tr zd→Heap→R
def ZQ:OpF:=fun _ _ _ _=>none
def wm (x:Operand):OpF:=fun _ _ T H=>yh H (ev T x)
def C7 (c a b:Operand):OpF:=fun _ _ T H=>bnd (ev T c) fun v=>bnd (asBool v) fun q=>ifB q (yh H (ev T a)) (yh H (ev T b))
def Br (t:TypeId):OpF:=fun E _ _ H=>bnd (E.zero t) fun z=>fV H t (zP z) fun m=>.ptr m 0
def FK (t:TypeId) (x:Operand):OpF:=fun _ _ T H=>bnd (ev T x) fun v=>ifB (ZF kn (zP v)) (fV H t (zP v) fun m=>.ptr m 0) none
def QM (E:Env) (fs:List Field) (i:Nat):Option (Nat×Nat):=bnd (ZY i fs) fun f=>bnd (E.size f.type) fun s=>some (f.offset,s)
def Yr (s:Nat) (i:Nat):Option (Nat×Nat):=some (Nat.mul i s,s)
def aa (place:Nat→Option (Nat×Nat)) (total:Nat) (ps:List (Nat×zd)):List zd→Option (List zd):=
 List.rec (motive:=fun _=>List zd→Option (List zd)) some
  (fun p _ ih cs=>bnd (place p.1) fun q=>ifB (zH (Nat.beq (qT (zP p.2) 0) q.2) (Nat.ble (Nat.add q.1 q.2) total)) (ih (ZL q.1 (zP p.2) cs)) none) ps
def Xo (E:Env) (fs:List Field):Bool:=List.rec true (fun f _ ih=>zt (E.size f.type) false fun _=>ih) fs
def hZ (E:Env) (d:TypeDesc) (z:List zd) (ps:List (Nat×zd)):Option (List zd):=
 zt (k8 d) (bnd (yw d) fun q=>bnd (E.size q.2) fun s=>aa (Yr s) (qT z 0) ps z) fun fs=>ifB (Xo E fs) (aa (QM E fs) (qT z 0) ps z) none
def Bp (t:TypeId) (parts:Array (Nat×Operand)):OpF:=fun E _ T H=>
 bnd (E.zero t) fun z=>bnd (bG T parts.toList) fun ps=>bnd (E.desc t) fun d=>bnd (hZ E d (zP z) ps) fun l=>some (.agg l,H)
def dZ (t:TypeId) (len:Nat) (parts:Array (Nat×Operand)):OpF:=fun E _ T H=>
 bnd (E.desc t) fun d=>bnd (jy d) fun e=>bnd (bG T parts.toList) fun ps=>bnd (E.size e) fun s=>bnd (E.zero e) fun z=>
  ifB (zH (Nat.ble (Nat.mul len s) 16777216) (Nat.beq (qT (zP z) 0) s))
   (bnd (aa (Yr s) (Nat.mul len s) ps (yY (zP z) len)) fun l=>ifB (ZF kn l) (fV H e l fun m=>.slice m 0 len len true) none) none
def Db (t:TypeId) (a:Operand):OpF:=fun E _ T H=>bnd (ev T a) fun v=>bnd (ZS v) fun p=>yh H (E.loadVar H t p.1 p.2)
def Bj (t:TypeId) (a x:Operand):OpF:=fun E _ T H=>
 bnd (ev T a) fun v=>bnd (ZS v) fun p=>bnd (ev T x) fun y=>bnd (E.storeVar H t p.1 p.2 y) fun H'=>some (qN,H')
def nK (x:Operand):OpF:=fun _ _ T H=>bnd (ev T x) fun v=>ifB (isNil v) none (some (v,H))
def Bq (op:BinOp) (t:TypeId) (x y:Operand) (_:TypeId):OpF:=fun E _ T H=>
 bnd (ev T x) fun a=>bnd (ev T y) fun b=>yh H (Ce E H op t x y a b)
def unNeg (k:IntKind) (n:Int):zd:=mkInt k (Jx k (Bg n))
def unXor (k:IntKind) (n:Int):zd:=mkInt k (back k (Nat.xor (Jd k n) (Nat.sub (full k) 1)))
def tc (op:UnOp) (x:zd):Option zd:=
 match op with
 | .neg=>bnd (asInt x) fun p=>some (unNeg p.1 p.2)
 | .xor=>bnd (asInt x) fun p=>some (unXor p.1 p.2)
 | .not=>bnd (asBool x) fun b=>some (ifB b (.bool false) (.bool true))
 | .plus=>none
def C6 (op:UnOp) (_:TypeId) (x:Operand):OpF:=fun E _ T H=>bnd (ev T x) fun v=>yh H (ifB (ZO v) (findF (mUn op v) E.facts) (tc op v))
def sw (s d:TypeId) (x:Operand):OpF:=fun E _ T H=>bnd (ev T x) fun v=>ifB (ZO v) (iO E H s d v) (eS E H s d v)
def Ks (t:TypeId) (x:Operand):OpF:=fun E _ T H=>bnd (E.desc t) fun d=>ifB (sO d) none (bnd (ev T x) fun v=>some (.iface t v,H))
def Bv (f:Fn):Option FuncId:=match f with | .func f=>some f | _=>none
def nL (f:Fn) (first captured:Array Operand):OpF:=fun _ _ T H=>
 bnd (Bv f) fun f=>bnd (evs T first.toList) fun l=>bnd (evs T captured.toList) fun m=>some (.fn f l m,H)
def su (t:TypeId) (r:Option Operand):OpF:=fun E _ T H=>
 bnd (zt r (some true) fun o=>bnd (ev T o) fun v=>bnd (asInt v) fun _=>bnd (E.desc t) fun d=>bnd (nY d) fun _=>some true) fun _=>
  frc H.next fun n=>some (.map n,⟨H.blk.set n (.map [] 0),Nat.succ n⟩)
def mkSlice (E:Env) (H:Heap) (e:TypeId) (l c:Nat):R:=
 bnd (E.types.get e) fun i=>bnd (E.zero e) fun z=>
  ifB (zH (Nat.ble (Nat.mul c i.bytes) 1000000000) (zH (Nat.ble l c) (zH (Nat.beq (qT (zP z) 0) i.size) (Nat.ble c 1000000000))))
   (frc l fun l=>frc c fun c=>fV H e (yY (zP z) c) fun m=>.slice m 0 l c true) none
def C5 {α:Type u} (v:zd) (f:Nat→Option α):Option α:=bnd (asInt v) fun p=>ifB (WK p.1) (Jq p.2 f) none
def gp (t:TypeId) (l c:Operand):OpF:=fun E _ T H=>
 bnd (E.desc t) fun d=>bnd (jy d) fun e=>bnd (ev T l) fun a=>bnd (ev T c) fun b=>C5 a fun l=>C5 b fun c=>mkSlice E H e l c
def Bk (t:TypeId) (x:Operand) (lo hi mx:Option Operand):OpF:=fun E _ T H=>
 bnd (ev T x) fun v=>bnd (evO T lo) fun l=>bnd (evO T hi) fun h=>bnd (evO T mx) fun m=>yh H (td E t v l h m)
def lP (E:Env) (b off:Nat) (f:Field):Option zd:=bnd (E.size f.type) fun s=>Q9 s none fun _=>frc (Nat.add off f.offset) fun o=>some (.ptr b o)
def gu (s:TypeId) (x:Operand) (f:Nat):OpF:=fun E _ T H=>
 bnd (E.desc s) fun d=>bnd (k8 d) fun fs=>bnd (ZY f fs) fun fl=>bnd (ev T x) fun v=>bnd (ZS v) fun p=>yh H (lP E p.1 p.2 fl)
def Bo (t:TypeId) (x:Operand) (f:Nat):OpF:=fun E _ T H=>
 bnd (E.desc t) fun d=>bnd (k8 d) fun fs=>bnd (ZY f fs) fun fl=>bnd (ev T x) fun v=>bnd (asAgg v) fun cs=>yh H (E.apart fl.type cs fl.offset)
def KB (b off i s:Nat):Option zd:=frc (Nat.add off (Nat.mul i s)) fun o=>some (.ptr b o)
def sl (E:Env) (q:Nat×TypeId) (v:zd) (i:Int):Option zd:=
 bnd (ZS v) fun p=>bnd (E.size q.2) fun s=>inB i q.1 fun i=>KB p.1 p.2 i s
def uG (E:Env) (e:TypeId) (v:zd) (i:Int):Option zd:=
 bnd (E.size e) fun s=>zt (jN v) (bnd (ay v) fun p=>Jq i fun n=>bnd (findF (rN p.q) E.facts) fun m=>ifB (Nat.blt n m.1) (KB p.b p.o n s) none) fun q=>inB i q.len fun i=>KB q.b q.off i s
def KW (E:Env) (t:TypeId) (v ix:zd):Option zd:=
 bnd (Jy ix) fun i=>bnd (E.desc t) fun d=>zt (jy d) (bnd (yw d) fun q=>sl E q v i) fun e=>uG E e v i
def gq (t:TypeId) (x ix:Operand):OpF:=fun E _ T H=>bnd (ev T x) fun v=>bnd (ev T ix) fun i=>yh H (KW E t v i)
def Cr (s:List Nat) (i:Int):Option zd:=Jq i fun n=>bnd (ZY n s) fun b=>some (u8 b)
def sn (E:Env) (q:Nat×TypeId) (v:zd) (i:Int):Option zd:=
 bnd (asAgg v) fun cs=>bnd (E.size q.2) fun s=>inB i q.1 fun i=>E.apart q.2 cs (Nat.mul i s)
def tp (E:Env) (t:TypeId) (v ix:zd):Option zd:=
 bnd (Jy ix) fun i=>zt (qR v) (bnd (E.desc t) fun d=>bnd (yw d) fun q=>sn E q v i) fun s=>bnd (E.desc t) fun d=>ifB (jJ d) (Cr s i) none
def cK (E:Env) (t:TypeId) (v ix:zd):Option zd:=bnd (Jy ix) fun i=>bnd (E.desc t) fun d=>ifB (jJ d) (Jq i fun n=>findF (mAt v n) E.facts) none
def Bn (t:TypeId) (x ix:Operand):OpF:=fun E _ T H=>bnd (ev T x) fun v=>bnd (ev T ix) fun i=>yh H (ifB (ZO v) (cK E t v i) (tp E t v i))
def uQ (t:TypeId) (x k:Operand) (ok:Bool):OpF:=fun E _ T H=>bnd (ev T x) fun v=>bnd (ev T k) fun k=>yh H (mh E H t v k ok)
def Kr (t:TypeId) (m k v:Operand):OpF:=fun E _ T H=>
 bnd (ev T m) fun m=>bnd (ev T k) fun k=>bnd (ev T v) fun v=>bnd (KV E H t m k v) fun H'=>some (qN,H')
def Bl (t:TypeId) (x:Operand):OpF:=fun E _ T H=>
 bnd (E.desc t) fun d=>ifB (jJ d) (bnd (ev T x) fun v=>bnd (qR v) fun s=>frc H.next fun n=>some (.ptr n 0,⟨H.blk.set n (.siter s 0),Nat.succ n⟩)) none
def Km (H:Heap) (b:Nat) (s:List Nat) (p:Nat):R:=
 zt (ZY p s) (some (.tuple [.bool false],H)) fun c=>ifB (Nat.blt c 128)
  (frc (Nat.succ p) fun n=>some (.tuple [.bool true,.int .i64 (.ofNat p),.int .i32 (.ofNat c)],⟨H.blk.set b (.siter s n),H.next⟩)) none
def C8 (it:Operand) (str:Bool):OpF:=fun _ _ T H=>
 ifB str (bnd (ev T it) fun v=>bnd (ZS v) fun p=>Q9 p.2 (bnd (H.blk.get p.1) fun b=>bnd (BZ b) fun q=>ifB (Nat.ble 100 p.1) (Km H p.1 q.1 q.2) none) fun _=>none) none
def dY (x:Operand) (_ ty:TypeId) (ok:Bool):OpF:=fun E _ T H=>
 bnd (E.desc ty) fun d=>ifB (sO d) none (bnd (ev T x) fun v=>bnd (bZ v) fun p=>ifB (Nat.beq p.1 ty) (some (Jo ok p.2 true,H)) none)
def sv (t:Operand) (ix:Nat):OpF:=fun _ _ T H=>bnd (ev T t) fun v=>bnd (asTuple v) fun l=>yh H (ZY ix l)
def xm (t:Nat):Env→Tr zd→Heap→Option zd:=fun _ T _=>lQ t T
def tX (a:Nat) (t:TypeId):Env→Tr zd→Heap→Option zd:=fun E T H=>bnd (T.get a) fun v=>bnd (ZS v) fun p=>E.loadVar H t p.1 p.2
def mc (r:ResultVar):Env→Tr zd→Heap→Option zd:=@ResultVar.rec (fun _=>Env→Tr zd→Heap→Option zd) xm tX r
def eI (E:Env) (T:Tr zd) (H:Heap) (l:List ResultVar):Option (List zd):=
 List.rec (some []) (fun r _ ih=>bnd (mc r E T H) fun a=>bnd ih fun m=>some (a::m)) l
def one (l:List zd):zd:=lC l (.tuple []) fun a m=>lC m a fun _ _=>.tuple l
def leave (E:Env) (fn:Func) (T:Tr zd) (H:Heap):R:=bnd (eI E T H fn.results.toList) fun l=>some (one l,H)
def dE (a b:Nat):Nat:=ifB (Nat.ble a b) b a
def leaves (E:Env) (fn:Func) (r:qQ):R:=@qQ.rec (fun _=>R) none (fun T H=>leave E fn T H) (fun _ _ _=>none) (fun T H=>leave E fn T H) r
def kB (E:Env) (rec:Rec) (f:FuncId) (args:List zd) (H:Heap):R:=
 bnd (E.funcs.get f) fun fn=>bnd fn.body fun c=>leaves E fn (rec ⟨dE fn.ntmps (qT args 0),f,none⟩ c (Tr.ofList args) H)
def V5 (sz:Nat) (t:TypeId) (r:R):Option (Nat×List zd):=
 bnd r fun r=>bnd (jN r.1) fun s=>bnd (r.2.row s.b) fun w=>
  ifB (zH (Nat.ble 100 s.b) (zH (Nat.beq s.off 0) (zH (Nat.beq w.t t) (zH (ifB s.ex (Nat.ble (Nat.mul s.cap sz) w.n) (Nat.beq (Nat.mul s.cap sz) w.n)) (Nat.ble s.len s.cap)))))
   (bnd (Tr.bC (Nat.mul s.len sz) w.c 0) fun l=>some (s.len,l)) none
def bf (m:Nat) (v:zd):Bool:=
 match v with
 | .bool _=>true
 | .int _ _=>true
 | .str _=>true
 | .nilp=>true
 | .nilslice=>true
 | .nilmap=>true
 | .nilfn=>true
 | .niliface=>true
 | .ptr b _=>Nat.blt b m
 | .slice b _ _ _ ex=>zH ex (Nat.blt b m)
 | .map b=>Nat.blt b m
 | .sym b=>Nat.blt b m
 | _=>false
abbrev wH:=List zd→Heap→R
def sk (H:Heap) (s:Sl) (bv:Nat) (t:TypeId) (sz:Nat) (x y:Option (Nat×List zd)):R:=
 bnd x fun p=>bnd y fun q=>ifB (zH (Nat.beq p.1 q.1) (zH (yg p.2 q.2) (ZF (bf H.next) p.2)))
  (some (.slice H.next 0 p.1 p.1 false,⟨((H.blk.del s.b).del bv).set H.next (.cells t (Nat.mul p.1 sz) (Tr.ofList p.2)),Nat.succ H.next⟩)) none
def Bd (E:Env) (run:wH) (s:Sl) (i:zd) (v:Sl) (H:Heap):R:=
 bnd (H.vd s.b) fun r=>bnd (H.vd v.b) fun w=>bnd (E.size r.t) fun sz=>
  ifB (zH (zH (Nat.ble 100 s.b) (Nat.ble 100 v.b)) (zH (kU (Nat.beq s.b v.b)) (zH (Nat.beq v.len 1) (Nat.beq (Nat.add s.off (Nat.mul s.cap sz)) r.n))))
   (sk H s v.b r.t sz
    (V5 sz r.t (run [.slice s.b s.off s.len s.cap true,i,.slice v.b v.off v.len v.cap v.ex]
     ⟨Tr.set (Tr.set (js E.zW) s.b (.cells r.t r.n r.c)) v.b (.cells w.t w.n w.c),H.next⟩))
    (V5 sz r.t (run [.slice H.next s.off s.len (Nat.succ s.cap) false,i,.slice v.b v.off v.len v.cap v.ex]
     ⟨Tr.set (Tr.set (js E.zW) H.next (.cells r.t (Nat.add r.n sz) r.c)) v.b (.cells w.t w.n w.c),Nat.succ H.next⟩))) none
def cl (E:Env) (run:wH) (args:List zd) (H:Heap):R:=
 lC args none fun a l=>lC l none fun i m=>lC m none fun v q=>l1 q
  (zt (jN a) (run args H) fun s=>ifB s.ex (run args H) (bnd (jN v) fun w=>frc H.next fun n=>Bd E run s i w ⟨H.blk,n⟩))
def oeq (a b:Option zd):Bool:=zt a (zt b true fun _=>false) fun x=>zt b false fun y=>qs x y
def mq (t:Tr zd):Tr zd→Bool:=
 Tr.rec (motive:=fun _=>Tr zd→Bool) (fun s=>Tr.rec (motive:=fun _=>Bool) true (fun _ _ _ _ _=>false) s)
  (fun _ v _ ihl ihr s=>Tr.rec (motive:=fun _=>Bool) false (fun l v' r _ _=>zH (oeq v v') (zH (ihl l) (ihr r))) s) t
def gE (es:Xu):Xu→Bool:=
 List.rec (motive:=fun _=>Xu→Bool) (fun m=>lC m true fun _ _=>false)
  (fun e _ ih m=>lC m false fun d m=>zH (zH (qs e.1 d.1) (zH (qs e.2.1 d.2.1) (Nat.beq e.2.2 d.2.2))) (ih m)) es
def Yb (a b:zJ):Bool:=
 match a,b with
 | .cells t n c,.cells t' n' c'=>zH (Nat.beq t t') (zH (Nat.beq n n') (mq c c'))
 | .pack t n N,.pack t' n' N'=>zH (Nat.beq t t') (zH (Nat.beq n n') (Nat.beq N N'))
 | .map es k,.map es' k'=>zH (gE es es') (Nat.beq k k')
 | .text t v,.text t' v'=>zH (Nat.beq t t') (qs v v')
 | .ints t v,.ints t' v'=>zH (Nat.beq t t') (qs v v')
 | .view c,.view c'=>mq c c'
 | _,_=>false
def j5 (l:List (Nat×zJ)) (t:Tr zJ):Tr zJ:=List.rec t (fun p _ ih=>ih.set p.1 p.2) l
def bH (l:List (Nat×zJ)) (t:Tr zJ):Tr zJ:=List.rec t (fun p _ ih=>ih.del p.1) l
def bA (t:Tr zJ) (l:List (Nat×zJ)):Bool:=List.rec true (fun p _ ih=>zH (zt (t.get p.1) false fun b=>Yb b p.2) ih) l
def WE (H:Heap) (rin rout:List (Nat×zJ)) (n:Nat):Heap:=⟨j5 rout (bH rin H.blk),n⟩
def Bi (v:zd):Option Nat:=match v with | .ptr b _=>some b | .slice b _ _ _ _=>some b | .map r=>some r | .osl b _=>some b | .psl b _ _ _ _=>some b | _=>none
def DJ (as:List zd) (ai fi:Nat):Option Nat:=bnd (ZY ai as) fun a=>Q9 fi (Bi a) fun k=>bnd (asAgg a) fun l=>bnd (ZY k l) Bi
def BP (H:Heap) (b ci:Nat):Option Nat:=Q9 ci (some b) fun k=>bnd (H.row b) fun r=>bnd (Tr.get r.c k) Bi
def Cv (as:List zd) (H:Heap) (g:Seg):Option (Nat×Nat×Nat):=
 bnd (DJ as g.ai g.fi) fun b=>bnd (BP H b g.ci) fun a=>ifB (Nat.ble g.cid (Nat.add a g.lo)) (frc (Nat.sub (Nat.add a g.lo) g.cid) fun n=>some (g.lo,g.hi,n)) none
def pA (as:List zd) (H:Heap) (l:List Seg):Option (List (Nat×Nat×Nat)):=List.rec (some []) (fun g _ ih=>bnd (Cv as H g) fun x=>bnd ih fun m=>some (x::m)) l
def ren (nx next:Nat) (l:List (Nat×Nat×Nat)) (id:Nat):Nat:=
 ifB (Nat.ble nx id) (Nat.add next (Nat.sub id nx)) (List.rec id (fun x _ ih=>ifB (zH (Nat.ble x.1 id) (Nat.blt id x.2.1)) (Nat.add x.2.2 (Nat.sub id x.1)) ih) l)
def XK (N nx next:Nat) (l:List (Nat×Nat×Nat)):Bool:=
 List.rec true (fun x _ ih=>zH (zH (Nat.ble N x.1) (zH (Nat.ble x.1 x.2.1) (zH (Nat.ble x.2.1 nx) (Nat.ble (Nat.add x.2.2 (Nat.sub x.2.1 x.1)) next)))) ih) l
def nv (n:Nat) (l:List Nat):Bool:=List.rec false (fun a _ ih=>ifB (Nat.beq n a) true ih) l
def bh (l:List Nat):Bool:=List.rec true (fun a m ih=>ifB (nv a m) false ih) l
def pI (N nx:Nat) (ρ:Nat→Nat) (l:List (Nat×zJ)):Bool:=List.rec true (fun p _ ih=>zH (zH (Nat.ble N p.1) (zH (Nat.blt p.1 nx) (zH (Nat.ble 100 (ρ p.1)) (zt (yc p.2) true fun _=>false)))) ih) l
def Qa (ρ:Nat→Nat) (l:List (Nat×zJ)):List Nat:=List.rec [] (fun p _ ih=>frc (ρ p.1) fun m=>m::ih) l
def jj (ρ:Nat→Nat) (v:zd):zd:=
 @zd.rec (fun _=>zd) (fun _=>List zd)
  (fun b=>.bool b) (fun k n=>.int k n) (fun s=>.str s) .nilp (fun b o=>frc (ρ b) fun m=>.ptr m o) .nilslice (fun b o l c x=>frc (ρ b) fun m=>.slice m o l c x) .nilmap (fun r=>frc (ρ r) fun m=>.map m)
  (fun f _ _ l m=>.fn f l m) (fun l=>frc (ρ l) fun m=>.yieldf m) (fun b c=>frc (ρ b) fun m=>.capv m c) .nilfn (fun t _ v=>.iface t v) .niliface (fun _ l=>.agg l) (fun _ l=>.tuple l) (fun i=>frc (ρ i) fun m=>.sym m) (fun b o q=>frc (ρ b) fun m=>.esl m o q)
  (fun b _ v=>frc (ρ b) fun m=>.osl m v) (fun b o q c x=>frc (ρ b) fun m=>frc (ρ q) fun p=>.psl m o p c x)
  [] (fun _ _ a l=>a::l) v
def Jh (ρ:Nat→Nat) (l:List zd):List zd:=List.rec [] (fun a _ ih=>jj ρ a::ih) l
def da (ρ:Nat→Nat) (b:zJ):zJ:=
 zJ.rec (fun t n c=>.cells t n (Qm (jj ρ) c)) (fun es c=>.map (mapA (fun e=>(e.1,jj ρ e.2.1,e.2.2)) es) c) (fun a b c e f g h i=>.loop a b c e f g h i) (fun s p=>.siter s p) (fun t v=>.text t (jj ρ v)) (fun t n N=>.pack t n N) (fun t v=>.ints t (jj ρ v)) (fun c=>.view (Qm (jj ρ) c)) b
def fS (v:zd):Bool:=
 match v with
 | .ptr ..=>false | .slice ..=>false | .map ..=>false | .yieldf ..=>false | .capv ..=>false | .sym ..=>false | .esl ..=>false | .osl ..=>false | .psl ..=>false | .fn ..=>false | .iface ..=>false | .agg ..=>false | .tuple ..=>false | _=>true
def dz (t:Tr zd):Bool:=Tr.rec true (fun _ v _ il ir=>ifB (zt v true fS) (ifB il ir false) false) t
def rj (es:Xu):Bool:=List.rec true (fun e _ ih=>ifB (fS e.2.1) ih false) es
def CP (b:zJ):Bool:=
 zJ.rec (fun _ _ c=>dz c) (fun es _=>rj es) (fun _ _ _ _ _ _ _ _=>true) (fun _ _=>true) (fun _ v=>fS v) (fun _ _ _=>true) (fun _ v=>fS v) (fun c=>dz c) b
def pH (ρ:Nat→Nat) (b:zJ):zJ:=ifB (CP b) b (da ρ b)
def bz (ρ:Nat→Nat) (t:Tr zJ) (l:List (Nat×zJ)):Bool:=List.rec true (fun p _ ih=>zH (frc (ρ p.1) fun m=>zt (t.get m) false fun b=>Yb b (pH ρ p.2)) ih) l
def Qd (ρ:Nat→Nat) (l:List (Nat×zJ)) (t:Tr zJ):Tr zJ:=List.rec t (fun p _ ih=>frc (ρ p.1) fun m=>ih.del m) l
def Jl (ρ:Nat→Nat) (l:List (Nat×zJ)) (t:Tr zJ):Tr zJ:=List.rec t (fun p _ ih=>frc (ρ p.1) fun m=>ih.set m (pH ρ p.2)) l
def Vn (ρ:Nat→Nat) (H:Heap) (rin rout:List (Nat×zJ)) (n:Nat):Heap:=⟨Jl ρ rout (Qd ρ rin H.blk),n⟩
def sA (as bs:List zd) (H:Heap) (N nx:Nat) (rin rout:List (Nat×zJ)) (r:zd) (n:Nat) (l:List (Nat×Nat×Nat)) (ρ:Nat→Nat):Option (zd×Heap):=
 ifB (zH (XK N nx H.next l) (zH (yg as (Jh ρ bs)) (zH (pI N nx ρ rin) (zH (bh (Qa ρ rin)) (bz ρ H.blk rin)))))
  (frc (Nat.add H.next (Nat.sub n nx)) fun m=>some (jj ρ r,Vn ρ H rin rout m)) none
def bn (g:FuncId) (as:List zd) (H:Heap) (f:Fact):Option (zd×Heap):=
 match f with
 | .memoG h N segs bs nx rin rout r n=>ifB (Nat.beq g h) (bnd (pA as H segs) fun l=>ifB (zH (Nat.ble nx H.next) (zH (Nat.ble 100 N) (Nat.ble N nx))) (sA as bs H N nx rin rout r n l (ren nx H.next l)) none) none
 | _=>none
def lB (g:FuncId) (as:List zd) (H:Heap) (f:Fact):Option (zd×Heap):=
 match f with
 | .memo h bs nx rin rout r n=>ifB (zH (Nat.beq g h) (zH (yg as bs) (zH (Nat.beq H.next nx) (bA H.blk rin)))) (some (r,WE H rin rout n)) none
 | _=>none
def Vz (E:Env) (H:Heap) (a p:zd):Bool:=
 zt (yL p) (qs a p) fun q=>ifB (zt (yL a) (zt (jN a) false fun _=>true) fun _=>true) (zt (Qx E H a) false fun v=>qs v q.2) false
def Vy (E:Env) (H:Heap) (l:List zd):List zd→Bool:=
 List.rec (motive:=fun _=>List zd→Bool) (fun m=>lC m true fun _ _=>false) (fun a _ ih m=>lC m false fun b m=>zH (Vz E H a b) (ih m)) l
def lz (E:Env) (g:FuncId) (as:List zd) (H:Heap) (f:Fact):Option zd:=match f with | .read h bs r=>ifB (zH (Nat.beq g h) (Vy E H as bs)) (some r) none | _=>none
def Cd (E:Env) (rec:Rec) (f:FuncId) (args:List zd) (H:Heap) (s:Spec):R:=
 match s with
 | .mapsClone=>VI args H
 | .indexByte=>VK args H
 | .makeNoZero e=>Wp e args H
 | .same=>Cm args H
 | .insert=>cl E (kB E rec f) args H
 | .compare=>cG args H
 | .count=>oE args H
 | .fact=>bnd (E.funcs.get f) fun fn=>bnd fn.body fun _=>
  zt (findF (dH f args) E.facts) (zt (findF (dF f args) E.facts) (zt (findF (lB f args H) E.facts) (zt (findF (bn f args H) E.facts) (zt (findF (lz E f args H) E.facts) (kB E rec f args H) fun r=>some (r,H)) fun q=>some q) fun q=>some q) fun q=>oD H q.1 q.2.1 q.2.2.1 q.2.2.2) fun r=>some (r,H)
def mi (E:Env) (rec:Rec) (f:FuncId) (args:List zd) (H:Heap):R:=
 zt (E.spec.get f) (kB E rec f args H) fun s=>Cd E rec f args H s
def XB (ps:List Tmp):List zd→Tr zd→Tr zd:=
 List.rec (motive:=fun _=>List zd→Tr zd→Tr zd) (fun _ T=>T) (fun p _ ih l T=>lC l T fun a m=>ih m (T.set p a)) ps
def Heap.lp (H:Heap) (l:Nat):Option Lp:=ifB (Nat.ble 100 l) (bnd (H.blk.get l) yc) none
def Heap.ZK (H:Heap) (l:Nat) (q:Lp) (st:LoopState) (pend:Option Code):Heap:=
 ⟨H.blk.set l (.loop st pend q.fn q.n q.T q.ps q.assign q.body),H.next⟩
def isReady (s:LoopState):Bool:=match s with | .ready=>true | _=>false
def Bc (s:LoopState):Bool:=match s with | .busy=>true | _=>false
def pF (l:Nat) (r:qQ):R:=
 @qQ.rec (fun _=>R) none
  (fun _ H=>bnd (H.lp l) fun q=>some (.bool true,H.ZK l q .ready none))
  (fun id _ H=>bnd (H.lp l) fun q=>some (.bool false,H.ZK l q .done (some (.exit id))))
  (fun _ H=>bnd (H.lp l) fun q=>some (.bool false,H.ZK l q .done (some .ret))) r
def Fj (r:qQ) (f:Tr zd→Heap→R):R:=@qQ.rec (fun _=>R) none f (fun _ _ _=>none) (fun _ _=>none) r
def rU (n:Nat) (l:List Tmp):Bool:=List.rec true (fun p _ ih=>ifB (Nat.blt p n) ih false) l
def ik (rec:Rec) (l:Nat) (args:List zd) (H:Heap):R:=
 bnd (H.lp l) fun q=>ifB (zH (isReady q.st) (zH (Nat.beq (qT args 0) (qT q.ps.toList 0)) (rU q.n q.ps.toList)))
  (Fj (rec ⟨q.n,q.fn,some l⟩ q.assign (XB q.ps.toList args q.T) H) fun T H=>bnd (H.lp l) fun q'=>
   ifB (isReady q'.st) (pF l (rec ⟨q.n,q.fn,some l⟩ q.body T (H.ZK l q' .busy q'.pend))) none) none
def BU (E:Env) (rec:Rec) (args:List zd) (H:Heap) (f:FuncId) (first captured:List zd):R:=mi E rec f (jv first (jv args captured)) H
def iG (E:Env) (rec:Rec) (g:zd) (args:List zd) (H:Heap):R:=
 match g with
 | .fn f first captured=>BU E rec args H f first captured
 | .yieldf l=>ik rec l args H
 | _=>none
def DF (b:Builtin) (args:Array Operand) (ts:Array TypeId):OpF:=fun E _ T H=>bnd (evs T args.toList) fun vs=>Xq E H b ts.toList vs
def vh (g:Operand) (args:Array Operand):OpF:=fun E rec T H=>bnd (ev T g) fun v=>bnd (evs T args.toList) fun vs=>iG E rec v vs H
def Dd (c:Call):OpF:=@Callee.rec (fun _=>Array Operand→Array TypeId→OpF) (fun g args _=>vh g args) (fun _ _ _ _=>ZQ) DF c.callee c.args c.argTypes
def aop (o:Op):OpF:=@Op.rec (fun _=>OpF)
 wm wm C7 Br FK Bp dZ Kr Db Bj (fun _=>ZQ) (fun _=>ZQ) nK Bq C6 sw
 (fun _ _=>ZQ) Ks nL su (fun _ _=>ZQ) gp Bk gu Bo gq Bn uQ Kr
 (fun _ _ _=>ZQ) (fun _ _ _ _=>ZQ) Bl C8 (fun _=>ZQ) dY sv Dd (fun _=>ZQ) (fun _=>ZQ) (fun _=>ZQ)
 (fun _ _=>ZQ) (fun _ _ _=>ZQ) (fun _ _=>ZQ) o
abbrev cB:=Tr zd→Heap→qQ
def vp (n:Nat) (dst:Option Tmp) (T:Tr zd) (v:zd) (f:Tr zd→qQ):qQ:=
 zt dst (f T) fun d=>ifB (Nat.blt d n) (f (T.set d v)) .fail
def aB (E:Env) (rec:Rec) (n:Nat) (o:Oper) (T:Tr zd) (H:Heap) (k:cB):qQ:=
 zt (aop o.op E rec T H) .fail fun r=>vp n o.dst T r.1 fun T'=>k T' r.2
def Xj (T:Tr zd) (d:Tmp) (want:Bool):Bool:=zt (T.get d) false fun v=>zt (asBool v) false fun b=>oh b want
def YF (ops:List Oper) (T:Tr zd) (g:Nat×Bool):Bool:=zt (ZY g.1 ops) false fun o=>zt o.dst false fun d=>Xj T d g.2
def Y3 (v:zd):Bool:=ifB (WI v) true (ZO v)
def aJ (ops:List Oper) (T:Tr zd) (g:Nat×Bool):Bool:=zt (ZY g.1 ops) false fun o=>zt o.dst false fun d=>zt (T.get d) false Y3
def Vc (E:Env) (rec:Rec) (n:Nat) (ops:List Oper) (o:Oper) (k:cB) (T:Tr zd) (H:Heap):qQ:=
 zt o.guard (aB E rec n o T H k) fun g=>ifB (aJ ops T g) .fail (ifB (YF ops T g) (aB E rec n o T H k) (vp n o.dst T qN fun T'=>k T' H))
def vr (E:Env) (rec:Rec) (n:Nat) (ops:List Oper) (l:List Oper):cB:=
 List.rec (motive:=fun _=>cB) (fun T H=>.nrm T H) (fun o _ ih=>Vc E rec n ops o ih) l
structure OpM where
 i:Nat
 pre:Nat
 anc:Nat
 kind:Nat
 o:Oper
def Wd (e:Edge):Bool:=Region.binds .any e
def kF (es:List Edge):Nat:=List.rec 0 (fun e _ ih=>ifB (Wd e) (Nat.lor (Nat.shiftLeft 1 e.on) ih) ih) es
def yE (acc:List Nat) (es:List Edge):Nat:=
 List.rec 0 (fun e _ ih=>ifB (Wd e) (Nat.lor (Nat.lor (Nat.shiftLeft 1 e.on) (zt (ZY e.on acc) 0 fun a=>a)) ih) ih) es
def Qq (l:List Oper):List Nat→List Nat:=
 List.rec (motive:=fun _=>List Nat→List Nat) (fun acc=>acc) (fun o _ ih acc=>frc (yE acc o.after.toList) fun a=>ih (jv acc [a])) l
def Uv (x:Operand):Option Nat:=match x with | .tmp t=>some t | _=>none
def nu (t:Nat) (l:List Operand):Bool:=List.rec false (fun x _ ih=>zt (Uv x) ih fun u=>ifB (Nat.beq u t) true ih) l
def looks (ops:List Oper) (o:Oper) (t:Nat):Bool:=
 ifB (nu t o.op.operands.toList) true (zt o.guard false fun g=>zt (ZY g.1 ops) false fun q=>zt q.dst false fun d=>Nat.beq d t)
def bit (m i:Nat):Bool:=Nat.beq (Nat.land (Nat.shiftRight m i) 1) 1
def late (ops:List Oper) (w:Nat) (t:Nat) (l:List Oper):List Nat→Bool:=
 List.rec (motive:=fun _=>List Nat→Bool) (fun _=>false)
  (fun o _ ih as=>lC as false fun a as=>ifB (looks ops o t) (ifB (bit a w) (ih as) true) (ih as)) l
def ie (b:Builtin):Bool:=match b with | .len=>true | .cap=>true | .min=>true | .max=>true | _=>false
def KO (c:Call):Bool:=match c.callee with | .builtin b=>ie b | _=>false
def toInt (E:Env) (t:TypeId):Bool:=zt (E.desc t) false isInt
def j7 (E:Env) (o:Op):Nat:=
 match o with
 | .move _=>0 | .assign _=>0 | .pick _ _ _=>0 | .build _ _=>0 | .load _ _=>0 | .nilCheck _=>0 | .binOp _ _ _ _ _=>0 | .unOp _ _ _=>0
 | .makeInterface _ _=>0 | .makeFunc _ _ _=>0 | .slice _ _ _ _ _=>0 | .fieldAddr _ _ _=>0 | .field _ _ _=>0 | .indexAddr _ _ _=>0 | .index _ _ _=>0
 | .lookup _ _ _ _=>0 | .typeAssert _ _ _ _=>0 | .extract _ _=>0
 | .convert _ d _=>ifB (toInt E d) 0 2
 | .call c=>ifB (KO c) 0 2
 | .alloc _=>1 | .box _ _=>1 | .buildSlice _ _ _=>1 | .makeSlice _ _ _=>1
 | _=>2
def kindOf (E:Env) (ops:List Oper) (as:List Nat) (i:Nat) (o:Oper):Nat:=
 zt o.dst (ifB (Nat.beq (j7 E o.op) 1) 2 (j7 E o.op)) fun d=>ifB (late ops i d ops as) 2 (j7 E o.op)
def Ke (E:Env) (ops:List Oper) (as:List Nat) (l:List Oper):Nat→List Nat→List OpM:=
 List.rec (motive:=fun _=>Nat→List Nat→List OpM) (fun _ _=>[])
  (fun o _ ih i bs=>lC bs [] fun a bs=>frc (kF o.after.toList) fun p=>frc (kindOf E ops as i o) fun k=>⟨i,p,a,k,o⟩::ih (Nat.succ i) bs) l
def qn (E:Env) (ops:List Oper):List OpM:=Ke E ops (Qq ops []) ops 0 (Qq ops [])
def V9 (t:Nat) (l:List Oper):Bool:=List.rec true (fun o _ ih=>zt o.dst ih fun d=>ifB (Nat.beq d t) false ih) l
def yo (l:List Oper):Bool:=List.rec true (fun o r ih=>zt o.dst ih fun d=>ifB (V9 d r) ih false) l
def Yc (a b:Nat):Bool:=Nat.beq (Nat.land a b) a
def Yx (m i:Nat):Nat:=Nat.lor m (Nat.shiftLeft 1 i)
def isK (k:Nat) (m:OpM):Bool:=Nat.beq m.kind k
abbrev DrF:=Nat→Tr zd→Heap→qQ
def sN (E:Env) (rec:Rec) (n:Nat) (ops:List Oper) (m:OpM) (D:Nat) (T:Tr zd) (H:Heap) (k:DrF):qQ:=
 frc (Yx D m.i) fun D'=>Vc E rec n ops m.o (fun T H=>k D' T H) T H
def Wv (E:Env) (rec:Rec) (n:Nat) (ops:List Oper) (k:DrF) (l:List OpM):DrF:=
 List.rec (motive:=fun _=>DrF) k
  (fun m _ ih D T H=>ifB (bit D m.i) (ih D T H) (ifB (zH (kU (isK 2 m)) (Yc m.pre D)) (sN E rec n ops m D T H ih) (ih D T H))) l
def sameAs (T:Tr zd) (dst:Option Tmp) (v:zd):Bool:=zt dst true fun d=>zt (T.get d) false fun u=>qs u v
def k7:Rec:=fun _ _ _ _=>.fail
def bid (v:zd):Option Nat:=match v with | .ptr b _=>some b | .slice b _ _ _ _=>some b | _=>none
def ua (m:Nat) (v:zd):zd:=match v with | .ptr _ o=>.ptr m o | .slice _ o l c x=>.slice m o l c x | v=>v
def pD (r q:Row):Bool:=zH (Nat.beq r.t q.t) (zH (Nat.beq r.n q.n) (mq r.c q.c))
def iX (T:Tr zd) (H:Heap) (dst:Option Tmp) (r:zd×Heap):Bool:=
 zt dst false fun d=>zt (T.get d) false fun u=>zt (bid u) false fun m=>zt (H.row m) false fun q=>zt (r.2.row H.next) false fun q'=>
  zH (qs (ua m r.1) u) (pD q q')
def cn (E:Env) (T:Tr zd) (H:Heap) (row:Bool) (o:Oper):Bool:=
 zt (aop o.op E k7 T H) false fun r=>ifB row (iX T H o.dst r) (sameAs T o.dst r.1)
def again (E:Env) (ops:List Oper) (T:Tr zd) (H:Heap) (row:Bool) (o:Oper):Bool:=
 zt o.guard (cn E T H row o) fun g=>ifB (aJ ops T g) false (ifB (YF ops T g) (cn E T H row o) (sameAs T o.dst qN))
def KX (E:Env) (ops:List Oper) (HA D:Nat) (T:Tr zd) (H:Heap) (l:List OpM):Bool:=
 List.rec true (fun m _ ih=>ifB (zH (kU (isK 2 m)) (zH (bit D m.i) (kU (bit HA m.i)))) (ifB (again E ops T H (isK 1 m) m.o) ih false) ih) l
def enabled (D:Nat) (l:List OpM):List OpM:=List.rec [] (fun m _ ih=>ifB (zH (kU (bit D m.i)) (Yc m.pre D)) (m::ih) ih) l
def Qc (next:Nat→DrF) (E:Env) (rec:Rec) (n:Nat) (ops:List Oper) (ms:List OpM) (HA:Nat):DrF:=fun D T H=>
 ifB (KX E ops HA D T H ms)
  (lC (enabled D ms) (ifB (Nat.beq (Nat.succ D) (Nat.shiftLeft 1 (qT ops 0))) (.nrm T H) .fail)
   fun m r=>lC r (ifB (isK 2 m) (frc (Nat.lor HA m.anc) fun HA'=>sN E rec n ops m D T H (next HA')) .fail) fun _ _=>.fail) .fail
def uZ (E:Env) (rec:Rec) (n:Nat) (ops:List Oper) (ms:List OpM) (f:Nat):Nat→DrF:=
 Nat.rec (motive:=fun _=>Nat→DrF) (fun _ _ _ _=>.fail) (fun _ ih HA=>Wv E rec n ops (Qc ih E rec n ops ms HA) ms) f
def eO (E:Env) (rec:Rec) (n:Nat) (ops:List Oper) (T:Tr zd) (H:Heap):qQ:=
 ifB (yo ops) (uZ E rec n ops (qn E ops) (Nat.succ (qT ops 0)) 0 0 T H) .fail
abbrev J1:=Env→Rec→Fr→Tr zd→Heap→qQ
def r6:J1:=fun _ _ _ _ _=>.fail
def we:J1:=fun _ _ _ T H=>.nrm T H
def uE (ops:Array Oper) (draw:Bool):J1:=fun E rec fr T H=>ifB draw (eO E rec fr.n ops.toList T H) (vr E rec fr.n ops.toList ops.toList T H)
def Fm (a b:J1):J1:=fun E rec fr T H=>@qQ.rec (fun _=>qQ) .fail (fun T H=>b E rec fr T H) (fun id T H=>.ex id T H) (fun T H=>.ret T H) (a E rec fr T H)
def C3 (c:Operand) (a b:J1):J1:=fun E rec fr T H=>zt (ev T c) .fail fun v=>zt (asBool v) .fail fun q=>ifB q (a E rec fr T H) (b E rec fr T H)
def Ba (id:Nat) (a:J1):J1:=fun E rec fr T H=>
 @qQ.rec (fun _=>qQ) .fail (fun T H=>.nrm T H) (fun j T H=>ifB (Nat.beq j id) (.nrm T H) (.ex j T H)) (fun T H=>.ret T H) (a E rec fr T H)
def Kl (a b:Option zd):Option zd:=ifB (oeq a b) a (some tH)
def Je (t:Tr zd):Tr zd:=Tr.rec .nil (fun _ v _ l r=>.node l (zt v none fun _=>some tH) r) t
def k6 (t:Tr zd):Tr zd→Tr zd:=
 Tr.rec (motive:=fun _=>Tr zd→Tr zd) (fun s=>Je s)
  (fun l v r ihl ihr s=>Tr.rec (motive:=fun _=>Tr zd) (Je (.node l v r)) (fun l' v' r' _ _=>.node (ihl l') (Kl v v') (ihr r')) s) t
def xH (a b:Option zJ):Bool:=zt a (zt b true fun _=>false) fun x=>zt b false fun y=>Yb x y
def uN (t:Tr zJ):Tr zJ→Bool:=
 Tr.rec (motive:=fun _=>Tr zJ→Bool) (fun s=>Tr.rec (motive:=fun _=>Bool) true (fun _ _ _ _ _=>false) s)
  (fun _ v _ ihl ihr s=>Tr.rec (motive:=fun _=>Bool) false (fun l v' r _ _=>zH (xH v v') (zH (ihl l) (ihr r))) s) t
def heq (H H':Heap):Bool:=zH (Nat.beq H.next H'.next) (uN H.blk H'.blk)
def lI (a b:qQ):qQ:=
 match a,b with
 | .nrm T H,.nrm T' H'=>ifB (heq H H') (.nrm (k6 T T') H) .fail
 | .ret T H,.ret T' H'=>ifB (heq H H') (.ret (k6 T T') H) .fail
 | .ex i T H,.ex j T' H'=>ifB (zH (Nat.beq i j) (heq H H')) (.ex i (k6 T T') H) .fail
 | _,_=>.fail
def JG (run:List Fact→qQ) (l:List (List Fact)):qQ:=List.rec (motive:=fun _=>qQ) .fail (fun f r ih=>lC r (run f) fun _ _=>lI (run f) ih) l
def roundOf (T:Tr zd) (t:Nat):Option Nat:=bnd (T.get t) fun v=>bnd (asInt v) fun p=>Jq p.2 some
def Jz (E:Env) (fn:FuncId) (T:Tr zd):Option (List (List Fact)):=bnd (E.alts.get fn) fun q=>bnd (roundOf T q.1) fun i=>ZY i q.2
def lD (c:Code) (rec:Rec) (fr:Fr) (r:qQ):qQ:=@qQ.rec (fun _=>qQ) .fail (fun T H=>rec fr (.loop c) T H) (fun j T H=>.ex j T H) (fun T H=>.ret T H) r
def CY (c:Code) (a:J1):J1:=fun E rec fr T H=>
 lD c rec fr (zt (Jz E fr.fn T) (a E rec fr T H) fun l=>JG (fun f=>a (E.plus f) k7 fr T H) l)
def CZ (id:Nat):J1:=fun _ _ _ T H=>.ex id T H
def Fo:J1:=fun _ _ _ T H=>.ret T H
def jump (c:Code) (T:Tr zd) (H:Heap):qQ:=match c with | .ret=>.ret T H | .exit id=>.ex id T H | _=>.fail
def dc (l:Nat) (T:Tr zd) (H:Heap):qQ:=
 zt (H.lp l) .fail fun q=>ifB (Bc q.st) .fail (zt q.pend (.nrm T (H.ZK l q .exhausted q.pend)) fun c=>jump c T (H.ZK l q .exhausted q.pend))
def xl (fr:Fr) (H:Heap):Bool:=zt fr.ro true fun l=>zt (H.lp l) false fun _=>true
def DI (v:zd):Option (FuncId×List zd×List zd):=match v with | .fn f l m=>some (f,l,m) | _=>none
def lh (E:Env) (rec:Rec) (fr:Fr) (T:Tr zd) (H:Heap) (l:Nat) (q:FuncId×List zd×List zd) (ps:Array Tmp) (assign body:Code):qQ:=
 zt (kB E rec q.1 (jv q.2.1 (jv [.yieldf l] q.2.2)) ⟨H.blk.set l (.loop .ready none fr.fn fr.n T ps assign body),Nat.succ l⟩) .fail fun r=>dc l T r.2
def Kk (f:Operand) (ps:Array Tmp) (assign body:Code):J1:=fun E rec fr T H=>
 ifB (xl fr H) (zt (ev T f) .fail fun v=>zt (DI v) .fail fun q=>zt (E.spec.get q.1) (frc H.next fun l=>lh E rec fr T H l q ps assign body) fun _=>.fail) .fail
def yT (c:Code):J1:=@Code.rec (fun _=>J1)
 we (fun _ ops d=>uE ops d) (fun _ _ a b=>Fm a b) (fun c _ _ a b=>C3 c a b) (fun id _ a=>Ba id a) (fun c a=>CY c a)
 (fun f ps a b _ _=>Kk f ps a b) (fun id=>CZ id) (fun _ _=>r6) (fun _=>we) (fun _=>r6) Fo (fun _=>r6) c
def Wg (E:Env) (n:Nat):Rec:=Nat.rec (motive:=fun _=>Rec) (fun _ _ _ _=>.fail) (fun _ ih fr c T H=>yT c E ih fr T H) n
end
end
end Go.AEv
