/- A verified evaluator of loaded Go code, and its soundness (part EvK). Conditions: the program fits (no goroutine count, mixed orders). -/
import Derived.AtR
namespace Go.AEv
universe u v
noncomputable section
def ifB {α:Sort u} (b:Bool) (t e:α):α:=Bool.rec e t b
def bnd {α:Type u}{β:Type v} (x:Option α) (f:α→Option β):Option β:=Option.rec none f x
def zh {α:Type u}{β:Sort v} (x:Option α) (e:β) (f:α→β):β:=Option.rec e f x
def frc {α:Sort u} (n:Nat) (f:Nat→α):α:=Nat.rec (f 0) (fun m _=>f m) (Nat.succ n)
def qP {α:Sort u} (n:Nat) (z:α) (s:Nat→α):α:=Nat.rec z (fun m _=>s m) n
def Zv {α:Sort u} (n:Int) (p:Nat→α) (q:Nat→α):α:=Int.rec p q n
inductive Pa where
 | e | o (p:Pa) | i (p:Pa)
 deriving DecidableEq
inductive Tr (α:Type) where
 | nil
 | node (l:Tr α) (v:Option α) (r:Tr α)
def Xv (f:Nat):Nat→Pa:=
 Nat.rec (motive:=fun _=>Nat→Pa) (fun _=>.e)
  (fun _ ih i=>ifB (Nat.beq i 0) .e (ifB (Nat.beq (Nat.mod i 2) 1) (.o (ih (Nat.div i 2))) (.i (ih (Nat.sub (Nat.div i 2) 1))))) f
def path (n:Nat):Pa:=Xv (Nat.succ n) n
def JH {α:Type} (p:Pa):Tr α→Option α:=
 Pa.rec (motive:=fun _=>Tr α→Option α)
  (fun t=>Tr.rec none (fun _ v _ _ _=>v) t)
  (fun _ ih t=>Tr.rec none (fun l _ _ _ _=>ih l) t)
  (fun _ ih t=>Tr.rec none (fun _ _ r _ _=>ih r) t) p
def Kt {α:Type} (a:Option α) (p:Pa):Tr α→Tr α:=
 Pa.rec (motive:=fun _=>Tr α→Tr α)
  (fun t=>Tr.rec (.node .nil a .nil) (fun l _ r _ _=>.node l a r) t)
  (fun _ ih t=>Tr.rec (.node (ih .nil) none .nil) (fun l v r _ _=>.node (ih l) v r) t)
  (fun _ ih t=>Tr.rec (.node .nil none (ih .nil)) (fun l v r _ _=>.node l v (ih r)) t) p
namespace Tr
variable {α:Type}
def get (t:Tr α) (i:Nat):Option α:=JH (path i) t
def set (t:Tr α) (i:Nat) (a:α):Tr α:=Kt (some a) (path i) t
def del (t:Tr α) (i:Nat):Tr α:=Kt none (path i) t
end Tr
def lC {α:Type u}{β:Sort v} (l:List α) (z:β) (s:α→List α→β):β:=List.rec z (fun a l _=>s a l) l
end
end Go.AEv
namespace Go.AEv
universe u
noncomputable section
inductive zb where
 | bool (b:Bool)
 | int (k:IntKind) (n:Int)
 | str (s:List Nat)
 | nilp
 | ptr (b off:Nat)
 | nilslice
 | slice (b off len cap:Nat) (exact:Bool)
 | nilmap
 | map (r:Nat)
 | fn (f:FuncId) (first captured:List zb)
 | yieldf (l:Nat)
 | capv (b c:Nat)
 | nilfn
 | iface (t:TypeId) (v:zb)
 | niliface
 | agg (l:List zb)
 | tuple (l:List zb)
 | sym (i:Nat)
 | esl (b o q:Nat)
 | osl (b:Nat) (v:zb)
 | psl (b o q c:Nat) (ex:Bool)
def qW:zb:=.tuple []
structure Sl where
 b:Nat
 off:Nat
 len:Nat
 cap:Nat
 ex:Bool
def asBool (v:zb):Option Bool:=
 @zb.rec (fun _=>Option Bool) (fun _=>PUnit)
  (fun b=>some b)
  (fun _ _=>none)
  (fun _=>none)
  (none)
  (fun _ _=>none)
  (none)
  (fun _ _ _ _ _=>none)
  (none)
  (fun _=>none)
  (fun _ _ _ _ _=>none)
  (fun _=>none)
  (fun _ _=>none)
  (none)
  (fun _ _ _=>none)
  (none)
  (fun _ _=>none)
  (fun _ _=>none)
  (fun _=>none)
  (fun _ _ _=>none)
  (fun _ _ _=>none)
  (fun _ _ _ _ _=>none)
  ⟨⟩ (fun _ _ _ _=>⟨⟩) v
def asInt (v:zb):Option (IntKind×Int):=
 @zb.rec (fun _=>Option (IntKind×Int)) (fun _=>PUnit)
  (fun _=>none)
  (fun k n=>some (k,n))
  (fun _=>none)
  (none)
  (fun _ _=>none)
  (none)
  (fun _ _ _ _ _=>none)
  (none)
  (fun _=>none)
  (fun _ _ _ _ _=>none)
  (fun _=>none)
  (fun _ _=>none)
  (none)
  (fun _ _ _=>none)
  (none)
  (fun _ _=>none)
  (fun _ _=>none)
  (fun _=>none)
  (fun _ _ _=>none)
  (fun _ _ _=>none)
  (fun _ _ _ _ _=>none)
  ⟨⟩ (fun _ _ _ _=>⟨⟩) v
def XM (v:zb):Option Int:=
 @zb.rec (fun _=>Option Int) (fun _=>PUnit)
  (fun _=>none)
  (fun _ n=>some n)
  (fun _=>none)
  (none)
  (fun _ _=>none)
  (none)
  (fun _ _ _ _ _=>none)
  (none)
  (fun _=>none)
  (fun _ _ _ _ _=>none)
  (fun _=>none)
  (fun _ _=>none)
  (none)
  (fun _ _ _=>none)
  (none)
  (fun _ _=>none)
  (fun _ _=>none)
  (fun _=>none)
  (fun _ _ _=>none)
  (fun _ _ _=>none)
  (fun _ _ _ _ _=>none)
  ⟨⟩ (fun _ _ _ _=>⟨⟩) v
def JB (v:zb):Option (Nat×Nat):=
 @zb.rec (fun _=>Option (Nat×Nat)) (fun _=>PUnit)
  (fun _=>none)
  (fun _ _=>none)
  (fun _=>none)
  (none)
  (fun b o=>some (b,o))
  (none)
  (fun _ _ _ _ _=>none)
  (none)
  (fun _=>none)
  (fun _ _ _ _ _=>none)
  (fun _=>none)
  (fun _ _=>none)
  (none)
  (fun _ _ _=>none)
  (none)
  (fun _ _=>none)
  (fun _ _=>none)
  (fun _=>none)
  (fun _ _ _=>none)
  (fun _ _ _=>none)
  (fun _ _ _ _ _=>none)
  ⟨⟩ (fun _ _ _ _=>⟨⟩) v
def kr (v:zb):Option Sl:=
 @zb.rec (fun _=>Option Sl) (fun _=>PUnit)
  (fun _=>none)
  (fun _ _=>none)
  (fun _=>none)
  (none)
  (fun _ _=>none)
  (none)
  (fun b o l c x=>some ⟨b,o,l,c,x⟩)
  (none)
  (fun _=>none)
  (fun _ _ _ _ _=>none)
  (fun _=>none)
  (fun _ _=>none)
  (none)
  (fun _ _ _=>none)
  (none)
  (fun _ _=>none)
  (fun _ _=>none)
  (fun _=>none)
  (fun _ _ _=>none)
  (fun _ _ _=>none)
  (fun _ _ _ _ _=>none)
  ⟨⟩ (fun _ _ _ _=>⟨⟩) v
def jb (v:zb):Option (List Nat):=
 @zb.rec (fun _=>Option (List Nat)) (fun _=>PUnit)
  (fun _=>none)
  (fun _ _=>none)
  (fun s=>some s)
  (none)
  (fun _ _=>none)
  (none)
  (fun _ _ _ _ _=>none)
  (none)
  (fun _=>none)
  (fun _ _ _ _ _=>none)
  (fun _=>none)
  (fun _ _=>none)
  (none)
  (fun _ _ _=>none)
  (none)
  (fun _ _=>none)
  (fun _ _=>none)
  (fun _=>none)
  (fun _ _ _=>none)
  (fun _ _ _=>none)
  (fun _ _ _ _ _=>none)
  ⟨⟩ (fun _ _ _ _=>⟨⟩) v
def asAgg (v:zb):Option (List zb):=
 @zb.rec (fun _=>Option (List zb)) (fun _=>PUnit)
  (fun _=>none)
  (fun _ _=>none)
  (fun _=>none)
  (none)
  (fun _ _=>none)
  (none)
  (fun _ _ _ _ _=>none)
  (none)
  (fun _=>none)
  (fun _ _ _ _ _=>none)
  (fun _=>none)
  (fun _ _=>none)
  (none)
  (fun _ _ _=>none)
  (none)
  (fun l _=>some l)
  (fun _ _=>none)
  (fun _=>none)
  (fun _ _ _=>none)
  (fun _ _ _=>none)
  (fun _ _ _ _ _=>none)
  ⟨⟩ (fun _ _ _ _=>⟨⟩) v
def asTuple (v:zb):Option (List zb):=
 @zb.rec (fun _=>Option (List zb)) (fun _=>PUnit)
  (fun _=>none)
  (fun _ _=>none)
  (fun _=>none)
  (none)
  (fun _ _=>none)
  (none)
  (fun _ _ _ _ _=>none)
  (none)
  (fun _=>none)
  (fun _ _ _ _ _=>none)
  (fun _=>none)
  (fun _ _=>none)
  (none)
  (fun _ _ _=>none)
  (none)
  (fun _ _=>none)
  (fun l _=>some l)
  (fun _=>none)
  (fun _ _ _=>none)
  (fun _ _ _=>none)
  (fun _ _ _ _ _=>none)
  ⟨⟩ (fun _ _ _ _=>⟨⟩) v
def zeF (v:zb):Option (TypeId×zb):=
 @zb.rec (fun _=>Option (TypeId×zb)) (fun _=>PUnit)
  (fun _=>none)
  (fun _ _=>none)
  (fun _=>none)
  (none)
  (fun _ _=>none)
  (none)
  (fun _ _ _ _ _=>none)
  (none)
  (fun _=>none)
  (fun _ _ _ _ _=>none)
  (fun _=>none)
  (fun _ _=>none)
  (none)
  (fun t v _=>some (t,v))
  (none)
  (fun _ _=>none)
  (fun _ _=>none)
  (fun _=>none)
  (fun _ _ _=>none)
  (fun _ _ _=>none)
  (fun _ _ _ _ _=>none)
  ⟨⟩ (fun _ _ _ _=>⟨⟩) v
def Qf (v:zb):Option (Nat×zb):=
 @zb.rec (fun _=>Option (Nat×zb)) (fun _=>PUnit)
  (fun _=>none)
  (fun _ _=>none)
  (fun _=>none)
  (none)
  (fun _ _=>none)
  (none)
  (fun _ _ _ _ _=>none)
  (none)
  (fun _=>none)
  (fun _ _ _ _ _=>none)
  (fun _=>none)
  (fun _ _=>none)
  (none)
  (fun _ _ _=>none)
  (none)
  (fun _ _=>none)
  (fun _ _=>none)
  (fun _=>none)
  (fun _ _ _=>none)
  (fun b v _=>some (b,v))
  (fun _ _ _ _ _=>none)
  ⟨⟩ (fun _ _ _ _=>⟨⟩) v
structure Psl where
 b:Nat
 o:Nat
 q:Nat
 c:Nat
 ex:Bool
def zdx (v:zb):Option Psl:=
 @zb.rec (fun _=>Option Psl) (fun _=>PUnit)
  (fun _=>none)
  (fun _ _=>none)
  (fun _=>none)
  (none)
  (fun _ _=>none)
  (none)
  (fun _ _ _ _ _=>none)
  (none)
  (fun _=>none)
  (fun _ _ _ _ _=>none)
  (fun _=>none)
  (fun _ _=>none)
  (none)
  (fun _ _ _=>none)
  (none)
  (fun _ _=>none)
  (fun _ _=>none)
  (fun _=>none)
  (fun _ _ _=>none)
  (fun _ _ _=>none)
  (fun b o q c x=>some ⟨b,o,q,c,x⟩)
  ⟨⟩ (fun _ _ _ _=>⟨⟩) v
def zgK (v:zb):Option Nat:=
 @zb.rec (fun _=>Option Nat) (fun _=>PUnit)
  (fun _=>none)
  (fun _ _=>none)
  (fun _=>none)
  (none)
  (fun _ _=>none)
  (none)
  (fun _ _ _ _ _=>none)
  (none)
  (fun r=>some r)
  (fun _ _ _ _ _=>none)
  (fun _=>none)
  (fun _ _=>none)
  (none)
  (fun _ _ _=>none)
  (none)
  (fun _ _=>none)
  (fun _ _=>none)
  (fun _=>none)
  (fun _ _ _=>none)
  (fun _ _ _=>none)
  (fun _ _ _ _ _=>none)
  ⟨⟩ (fun _ _ _ _=>⟨⟩) v
def isNil (v:zb):Bool:=
 @zb.rec (fun _=>Bool) (fun _=>PUnit)
  (fun _=>false)
  (fun _ _=>false)
  (fun _=>false)
  (true)
  (fun _ _=>false)
  (false)
  (fun _ _ _ _ _=>false)
  (false)
  (fun _=>false)
  (fun _ _ _ _ _=>false)
  (fun _=>false)
  (fun _ _=>false)
  (true)
  (fun _ _ _=>false)
  (true)
  (fun _ _=>false)
  (fun _ _=>false)
  (fun _=>true)
  (fun _ _ _=>false)
  (fun _ _ _=>false)
  (fun _ _ _ _ _=>false)
  ⟨⟩ (fun _ _ _ _=>⟨⟩) v
def jT (v:zb):Bool:=
 @zb.rec (fun _=>Bool) (fun _=>PUnit)
  (fun _=>false)
  (fun _ _=>false)
  (fun _=>false)
  (false)
  (fun _ _=>false)
  (true)
  (fun _ _ _ _ _=>false)
  (false)
  (fun _=>false)
  (fun _ _ _ _ _=>false)
  (fun _=>false)
  (fun _ _=>false)
  (false)
  (fun _ _ _=>false)
  (false)
  (fun _ _=>false)
  (fun _ _=>false)
  (fun _=>false)
  (fun _ _ _=>false)
  (fun _ _ _=>false)
  (fun _ _ _ _ _=>false)
  ⟨⟩ (fun _ _ _ _=>⟨⟩) v
def zh7 (v:zb):Bool:=
 @zb.rec (fun _=>Bool) (fun _=>PUnit)
  (fun _=>false)
  (fun _ _=>false)
  (fun _=>false)
  (true)
  (fun _ _=>false)
  (false)
  (fun _ _ _ _ _=>false)
  (false)
  (fun _=>false)
  (fun _ _ _ _ _=>false)
  (fun _=>false)
  (fun _ _=>false)
  (false)
  (fun _ _ _=>false)
  (false)
  (fun _ _=>false)
  (fun _ _=>false)
  (fun _=>false)
  (fun _ _ _=>false)
  (fun _ _ _=>false)
  (fun _ _ _ _ _=>false)
  ⟨⟩ (fun _ _ _ _=>⟨⟩) v
def yw (v:zb):Bool:=
 @zb.rec (fun _=>Bool) (fun _=>PUnit)
  (fun _=>true)
  (fun _ _=>true)
  (fun _=>true)
  (true)
  (fun _ _=>true)
  (true)
  (fun _ _ _ _ _=>true)
  (true)
  (fun _=>true)
  (fun _ _ _ _ _=>true)
  (fun _=>true)
  (fun _ _=>true)
  (true)
  (fun _ _ _=>true)
  (true)
  (fun _ _=>false)
  (fun _ _=>false)
  (fun _=>true)
  (fun _ _ _=>true)
  (fun _ _ _=>true)
  (fun _ _ _ _ _=>true)
  ⟨⟩ (fun _ _ _ _=>⟨⟩) v
def Ju (v:zb):Bool:=
 @zb.rec (fun _=>Bool) (fun _=>PUnit)
  (fun _=>false)
  (fun _ _=>false)
  (fun _=>false)
  (false)
  (fun _ _=>false)
  (false)
  (fun _ _ _ _ _=>false)
  (false)
  (fun _=>false)
  (fun _ _ _ _ _=>false)
  (fun _=>false)
  (fun _ _=>false)
  (false)
  (fun _ _ _=>false)
  (false)
  (fun _ _=>false)
  (fun _ _=>false)
  (fun _=>true)
  (fun _ _ _=>false)
  (fun _ _ _=>false)
  (fun _ _ _ _ _=>false)
  ⟨⟩ (fun _ _ _ _=>⟨⟩) v
def zri (v:zb):Bool:=
 @zb.rec (fun _=>Bool) (fun _=>PUnit)
  (fun _=>false)
  (fun _ _=>false)
  (fun _=>false)
  (false)
  (fun _ _=>false)
  (false)
  (fun _ _ _ _ _=>false)
  (false)
  (fun _=>false)
  (fun _ _ _ _ _=>false)
  (fun _=>false)
  (fun _ _=>false)
  (false)
  (fun _ _ _=>false)
  (false)
  (fun _ _=>false)
  (fun _ _=>false)
  (fun _=>false)
  (fun _ _ _=>true)
  (fun _ _ _=>false)
  (fun _ _ _ _ _=>false)
  ⟨⟩ (fun _ _ _ _=>⟨⟩) v
def zP (v:zb):List zb:=
 @zb.rec (fun _=>List zb) (fun _=>PUnit)
  (fun b=>[zb.bool b])
  (fun k n=>[zb.int k n])
  (fun s=>[zb.str s])
  ([zb.nilp])
  (fun b o=>[zb.ptr b o])
  ([zb.nilslice])
  (fun b o l c x=>[zb.slice b o l c x])
  ([zb.nilmap])
  (fun r=>[zb.map r])
  (fun f l m _ _=>[zb.fn f l m])
  (fun l=>[zb.yieldf l])
  (fun b c=>[zb.capv b c])
  ([zb.nilfn])
  (fun t v _=>[zb.iface t v])
  ([zb.niliface])
  (fun l _=>l)
  (fun l _=>[zb.tuple l])
  (fun i=>[zb.sym i])
  (fun b o q=>[zb.esl b o q])
  (fun b v _=>[zb.osl b v])
  (fun b o q c x=>[zb.psl b o q c x])
  ⟨⟩ (fun _ _ _ _=>⟨⟩) v
def zcZ (k:IntKind):Nat:=@IntKind.rec (fun _=>Nat) 0 1 2 3 4 5 6 7 k
def znv (k j:IntKind):Bool:=Nat.beq (zcZ k) (zcZ j)
def KJ (a b:Int):Bool:=Zv a (fun m=>Zv b (Nat.beq m) fun _=>false) fun m=>Zv b (fun _=>false) (Nat.beq m)
def ilt (a b:Int):Bool:=Zv a (fun m=>Zv b (Nat.blt m) fun _=>false) fun m=>Zv b (fun _=>true) fun n=>Nat.blt n m
def zcd (l:List Nat):List Nat→Bool:=
 List.rec (motive:=fun _=>List Nat→Bool) (fun m=>lC m true fun _ _=>false)
  (fun a _ ih m=>lC m false fun b m=>ifB (Nat.beq a b) (ih m) false) l
def zlB (a b:Bool):Bool:=ifB a b (ifB b false true)
def j8 (a:Bool):Bool:=ifB a false true
def zq (a b:Bool):Bool:=ifB a b false
mutual
def qf:zb→zb→Bool
 | .bool a,.bool b=>zlB a b
 | .int k a,.int j b=>zq (znv k j) (KJ a b)
 | .str a,.str b=>zcd a b
 | .nilp,.nilp | .nilslice,.nilslice | .nilmap,.nilmap | .nilfn,.nilfn | .niliface,.niliface=>true
 | .ptr a b,.ptr c d=>zq (Nat.beq a c) (Nat.beq b d)
 | .slice a b c d e,.slice a' b' c' d' e'=>zq (Nat.beq a a') (zq (Nat.beq b b') (zq (Nat.beq c c') (zq (Nat.beq d d') (zlB e e'))))
 | .map a,.map b=>Nat.beq a b
 | .fn f a b,.fn g c d=>zq (Nat.beq f g) (zq (j9 a c) (j9 b d))
 | .yieldf a,.yieldf b=>Nat.beq a b
 | .capv a b,.capv c d=>zq (Nat.beq a c) (Nat.beq b d)
 | .iface t a,.iface u b=>zq (Nat.beq t u) (qf a b)
 | .agg a,.agg b=>j9 a b
 | .tuple a,.tuple b=>j9 a b
 | .sym a,.sym b=>Nat.beq a b
 | .esl a b c,.esl d e f=>zq (Nat.beq a d) (zq (Nat.beq b e) (Nat.beq c f))
 | .osl a x,.osl b y=>zq (Nat.beq a b) (qf x y)
 | .psl a b c d e,.psl a' b' c' d' e'=>zq (Nat.beq a a') (zq (Nat.beq b b') (zq (Nat.beq c c') (zq (Nat.beq d d') (zlB e e'))))
 | _,_=>false
def j9:List zb→List zb→Bool
 | [],[]=>true
 | a::l,b::m=>zq (qf a b) (j9 l m)
 | _,_=>false
end
def zaq {α:Type} (n:Nat):List α→List α:=
 Nat.rec (motive:=fun _=>List α→List α) (fun _=>[]) (fun _ ih l=>lC l [] fun a m=>a::ih m) n
def zdm {α:Type} (n:Nat):List α→List α:=
 Nat.rec (motive:=fun _=>List α→List α) (fun l=>l) (fun _ ih l=>lC l [] fun _ m=>ih m) n
def kg {α:Type} (n:Nat):List α→Option α:=
 Nat.rec (motive:=fun _=>List α→Option α) (fun l=>lC l none fun a _=>some a) (fun _ ih l=>lC l none fun _ m=>ih m) n
def qM {α:Type} (l:List α):Nat→Nat:=List.rec (motive:=fun _=>Nat→Nat) (fun n=>n) (fun _ _ ih n=>frc (Nat.succ n) ih) l
def zQ {α:Type} (l m:List α):List α:=List.rec m (fun a _ ih=>a::ih) l
def mapA {α β:Type} (f:α→β) (l:List α):List β:=List.rec [] (fun a _ ih=>f a::ih) l
def Jp (n:Nat):List zb→List zb→List zb:=
 Nat.rec (motive:=fun _=>List zb→List zb→List zb)
  (fun m l=>List.rec (motive:=fun _=>List zb→List zb) (fun l=>l) (fun a _ ih l=>lC l [] fun _ l=>a::ih l) m l)
  (fun _ ih m l=>lC l [] fun a l=>a::ih m l) n
def Qy (z:List zb) (n:Nat):List zb:=Nat.rec [] (fun _ ih=>zQ z ih) n
def Qq (p:zb→Bool) (l:List zb):Bool:=List.rec true (fun a _ ih=>ifB (p a) ih false) l
namespace Tr
variable {α:Type}
def zfw (l:List α):Tr α→Nat→Tr α:=
 List.rec (motive:=fun _=>Tr α→Nat→Tr α) (fun t _=>t) (fun a _ ih t i=>frc (Nat.succ i) fun j=>ih (t.set i a) j) l
def alt (l:List α):Bool→List α:=List.rec (motive:=fun _=>Bool→List α) (fun _=>[]) (fun a _ ih b=>ifB b (a::ih false) (ih true)) l
def build (f:Nat):List α→Tr α:=Nat.rec (motive:=fun _=>List α→Tr α) (fun _=>.nil) (fun _ ih l=>lC l .nil fun a m=>.node (ih (alt m true)) (some a) (ih (alt m false))) f
def ofList (l:List α):Tr α:=frc (qM l 0) fun n=>ifB (Nat.ble n 48) (zfw l .nil 0) (build n l)
def lft (t:Tr α):Tr α:=Tr.rec .nil (fun l _ _ _ _=>l) t
def rgt (t:Tr α):Tr α:=Tr.rec .nil (fun _ _ r _ _=>r) t
def top (t:Tr α):Option α:=Tr.rec none (fun _ v _ _ _=>v) t
def over (u:Tr α) (lo hi:Nat) (f:Nat):Tr α→Nat→Nat→Tr α:=
 Nat.rec (motive:=fun _=>Tr α→Nat→Nat→Tr α) (fun t _ _=>t)
  (fun _ ih t a s=>ifB (Nat.ble hi a) t (frc (Nat.add a s) fun b=>frc (Nat.add s s) fun q=>frc (Nat.add b s) fun c=>
   .node (ih (lft t) b q) (ifB (Nat.ble lo a) (u.get (Nat.sub a lo)) (top t)) (ih (rgt t) c q))) f
def zkD (l:List α) (t:Tr α) (i:Nat):Tr α:=
 frc (qM l 0) fun n=>ifB (Nat.ble n 48) (zfw l t i) (frc (Nat.add i n) fun h=>over (ofList l) i h (Nat.succ h) t 0 1)
def ka (n:Nat):Tr α→Nat→Option (List α):=
 Nat.rec (motive:=fun _=>Tr α→Nat→Option (List α)) (fun _ _=>some [])
  (fun _ ih t i=>bnd (t.get i) fun a=>bnd (ih t (Nat.succ i)) fun l=>some (a::l)) n
def zgq (f:Nat):Nat→Tr α→Nat→Option (List α):=
 Nat.rec (motive:=fun _=>Nat→Tr α→Nat→Option (List α)) (fun n t i=>ka n t i)
  (fun _ ih n t i=>ifB (Nat.ble n 32) (ka n t i) (frc (Nat.div n 2) fun h=>frc (Nat.sub n h) fun k=>frc (Nat.add i h) fun j=>
   bnd (ih h t i) fun l=>bnd (ih k t j) fun m=>some (zQ l m))) f
def Ji (n:Nat) (t:Tr α) (i:Nat):Option (List α):=zgq 20 n t i
def tree (f:Nat→α) (d:Nat):Nat→Nat→Nat→Tr α:=
 Nat.rec (motive:=fun _=>Nat→Nat→Nat→Tr α) (fun _ _ _=>.nil)
  (fun _ ih a s n=>qP n .nil fun m=>frc (Nat.add a s) fun b=>frc (Nat.add s s) fun q=>frc (Nat.add b s) fun c=>
   .node (frc (Nat.div (Nat.succ m) 2) fun p=>ih b q p) (some (f a)) (frc (Nat.div m 2) fun r=>ih c q r)) d
end Tr
def byteOf (N i:Nat):Nat:=Nat.mod (Nat.shiftRight N (Nat.mul 8 i)) 256
def unp (n N:Nat):Tr zb:=Tr.tree (fun i=>frc (byteOf N i) fun b=>.int .u8 (.ofNat b)) n 0 1 n
def Y5 (l:List Nat):Nat→Nat→Nat:=
 List.rec (motive:=fun _=>Nat→Nat→Nat) (fun acc _=>acc) (fun b _ ih acc k=>frc (Nat.add acc (Nat.shiftLeft b k)) fun acc=>frc (Nat.add k 8) fun k=>ih acc k) l
def Yu (N o l:Nat):Nat:=Nat.mod (Nat.shiftRight N (Nat.mul 8 o)) (Nat.shiftLeft 1 (Nat.mul 8 l))
def KU (n S M:Nat):Nat:=Nat.add S (Nat.shiftLeft M (Nat.mul 8 n))
def unp0 (n:Nat):Nat→List Nat:=Nat.rec (motive:=fun _=>Nat→List Nat) (fun _=>[]) (fun _ ih N=>frc (Nat.mod N 256) fun b=>b::frc (Nat.shiftRight N 8) ih) n
def unpH (f:Nat):Nat→Nat→List Nat:=
 Nat.rec (motive:=fun _=>Nat→Nat→List Nat) (fun n N=>unp0 n N)
  (fun _ ih n N=>ifB (Nat.ble n 8) (unp0 n N) (frc (Nat.div n 2) fun h=>frc (Nat.sub n h) fun k=>zQ (frc (Yu N 0 h) fun L=>ih h L) (frc (Nat.shiftRight N (Nat.mul 8 h)) fun M=>ih k M))) f
def unpB (n:Nat):Nat→List Nat→List Nat:=Nat.rec (motive:=fun _=>Nat→List Nat→List Nat) (fun _ r=>r) (fun _ ih N r=>frc (Nat.mod N 256) fun b=>b::frc (Nat.shiftRight N 8) fun M=>ih M r) n
def unpA (f:Nat):Nat→Nat→List Nat→List Nat:=
 Nat.rec (motive:=fun _=>Nat→Nat→List Nat→List Nat) (fun n N r=>unpB n N r)
  (fun _ ih n N r=>ifB (Nat.ble n 8) (unpB n N r) (frc (Nat.div n 2) fun h=>frc (Nat.sub n h) fun k=>frc (Yu N 0 h) fun L=>ih h L (frc (Nat.shiftRight N (Nat.mul 8 h)) fun M=>ih k M r))) f
def unpL (n N:Nat):List Nat:=unpA 20 n N []
inductive zo where
 | cells (t:TypeId) (n:Nat) (c:Tr zb)
 | map (es:List (zb×zb×Nat)) (clock:Nat)
 | loop (st:LoopState) (pend:Option Code) (fn:FuncId) (n:Nat) (T:Tr zb) (ps:Array Tmp) (assign body:Code)
 | siter (s:List Nat) (pos:Nat)
 | text (t:TypeId) (v:zb)
 | pack (t:TypeId) (n N:Nat)
 | ints (t:TypeId) (v:zb)
 | view (c:Tr zb)
structure Row where
 t:TypeId
 n:Nat
 c:Tr zb
structure Lp where
 st:LoopState
 pend:Option Code
 fn:FuncId
 n:Nat
 T:Tr zb
 ps:Array Tmp
 assign:Code
 body:Code
def zog (b:zo):Option Row:=zo.rec (fun t n c=>some ⟨t,n,c⟩) (fun _ _=>none) (fun _ _ _ _ _ _ _ _=>none) (fun _ _=>none) (fun _ _=>none) (fun t n N=>some ⟨t,n,unp n N⟩) (fun _ _=>none) (fun _=>none) b
def zeD (b:zo):Option (List (zb×zb×Nat)×Nat):=zo.rec (fun _ _ _=>none) (fun es c=>some (es,c)) (fun _ _ _ _ _ _ _ _=>none) (fun _ _=>none) (fun _ _=>none) (fun _ _ _=>none) (fun _ _=>none) (fun _=>none) b
def kC (b:zo):Option Lp:=zo.rec (fun _ _ _=>none) (fun _ _=>none) (fun a b c d e f g h=>some ⟨a,b,c,d,e,f,g,h⟩) (fun _ _=>none) (fun _ _=>none) (fun _ _ _=>none) (fun _ _=>none) (fun _=>none) b
def zsG (b:zo):Option (List Nat×Nat):=zo.rec (fun _ _ _=>none) (fun _ _=>none) (fun _ _ _ _ _ _ _ _=>none) (fun s p=>some (s,p)) (fun _ _=>none) (fun _ _ _=>none) (fun _ _=>none) (fun _=>none) b
def Lp.blk (l:Lp):zo:=.loop l.st l.pend l.fn l.n l.T l.ps l.assign l.body
def KZ (b:zo):Option (TypeId×zb):=zo.rec (fun _ _ _=>none) (fun _ _=>none) (fun _ _ _ _ _ _ _ _=>none) (fun _ _=>none) (fun t v=>some (t,v)) (fun _ _ _=>none) (fun _ _=>none) (fun _=>none) b
structure zl where
 blk:Tr zo
 next:Nat
inductive Spec where
 | mapsClone
 | indexByte
 | makeNoZero (e:TypeId)
 | same
 | insert
 | compare
 | count
 | fact
structure Seg where
 lo:Nat
 hi:Nat
 cid:Nat
 ai:Nat
 fi:Nat
 ci:Nat
inductive Fact where
 | bin (op:BinOp) (a b r:zb)
 | eq (sh:Nat) (a b:zb) (r:Bool)
 | conv (k:IntKind) (a r:zb)
 | len (a r:zb)
 | min (a b r:zb)
 | max (a b r:zb)
 | sub (a lo hi r:zb)
 | call (f:FuncId) (args:List zb) (r:zb)
 | make (f:FuncId) (args:List zb) (N n:Nat) (rows:List (Nat×zo)) (r:zb)
 | at_ (a:zb) (i:Nat) (r:zb)
 | pack (l:List zb) (r:zb)
 | read (f:FuncId) (args:List zb) (r:zb)
 | memo (f:FuncId) (args:List zb) (nx:Nat) (rin rout:List (Nat×zo)) (r:zb) (nx':Nat)
 | num (q lo hi:Nat)
 | diff (q m r:Nat)
 | callF (g:FuncId→List zb→Option zb)
 | makeF (g:FuncId→List zb→Option (Nat×Nat×List (Nat×zo)×zb))
 | binF (g:BinOp→zb→zb→Option zb)
 | unF (g:UnOp→zb→Option zb)
 | slen (a r:zb)
 | ssub (a h r:zb)
 | memoG (f:FuncId) (N:Nat) (segs:List Seg) (args:List zb) (nx:Nat) (rin rout:List (Nat×zo)) (r:zb) (nx':Nat)
structure Env where
 P:Program
 types:Tr TypeInfo
 funcs:Tr Func
 spec:Tr Spec
 facts:List Fact
 tabs:List (Nat×zo)
 alts:Tr (Nat×List (List (List Fact)))
def ja (P:Program) (spec:List (FuncId×Spec)) (facts:List Fact) (tabs:List (Nat×zo)):Env:=
 ⟨P,Tr.ofList P.types.toList,Tr.ofList P.funcs.toList,spec.foldl (fun t p=>t.set p.1 p.2) .nil,facts,tabs,.nil⟩
def Env.withAlts (E:Env) (f t:Nat) (l:List (List (List Fact))):Env:=⟨E.P,E.types,E.funcs,E.spec,E.facts,E.tabs,Tr.set .nil f (t,l)⟩
def Env.plus (E:Env) (l:List Fact):Env:=⟨E.P,E.types,E.funcs,E.spec,zQ l E.facts,E.tabs,.nil⟩
def jd (l:List (Nat×zo)):Tr zo:=List.rec .nil (fun p _ ih=>ih.set p.1 p.2) l
def descOf (T:Tr TypeInfo) (d:TypeDesc):Option TypeDesc:=
 match d with
 | .named _ u=>bnd (T.get u) fun j=>some j.desc
 | d=>some d
def Env.desc (E:Env) (t:TypeId):Option TypeDesc:=bnd (E.types.get t) fun i=>descOf E.types i.desc
def Env.size (E:Env) (t:TypeId):Option Nat:=bnd (E.types.get t) fun i=>some i.size
def zwJ (d:TypeDesc):Bool:=match d with | .struct _=>true | .array _ _=>true | _=>false
def Env.isAgg (E:Env) (t:TypeId):Option Bool:=bnd (E.desc t) fun d=>some (zwJ d)
def jQ (d:TypeDesc):Option TypeId:=match d with | .slice e=>some e | _=>none
def ZO (d:TypeDesc):Option (Nat×TypeId):=match d with | .array n e=>some (n,e) | _=>none
def Zk (d:TypeDesc):Option (List Field):=match d with | .struct fs=>some fs.toList | _=>none
def zix (d:TypeDesc):Option TypeId:=match d with | .pointer e=>some e | _=>none
def XG (d:TypeDesc):Option IntKind:=match d with | .int k=>some k | _=>none
def zlr (d:TypeDesc):Option (TypeId×TypeId):=match d with | .map k e=>some (k,e) | _=>none
def ki (d:TypeDesc):Bool:=match d with | .string=>true | _=>false
def zn3 (d:TypeDesc):Bool:=match d with | .interface _=>true | _=>false
def zet (d:TypeDesc):Bool:=match d with | .unsafePointer=>true | _=>false
def zei (k:IntKind):Bool:=Nat.beq (zcZ k) 4
def XB (k:IntKind):Bool:=Nat.beq (zcZ k) 3
def zF (s:ByteArray):List Nat:=mapA UInt8.toNat s.data.toList
mutual
def ofV:Nat→Value→Option zb
 | 0,_=>none
 | _+1,.bool b=>some (.bool b)
 | _+1,.int k n=>some (.int k n)
 | _+1,.string s=>some (.str (zF s))
 | _+1,.pointer none=>some .nilp
 | _+1,.slice none 0 0=>some .nilslice
 | _+1,.map none=>some .nilmap
 | _+1,.nilFunc=>some .nilfn
 | _+1,.nilIface=>some .niliface
 | n+1,.agg cs=>bnd (zhT n cs.toList) fun l=>some (.agg l)
 | n+1,.tuple cs=>bnd (zhT n cs.toList) fun l=>some (.tuple l)
 | _+1,_=>none
def zhT:Nat→List Value→Option (List zb)
 | 0,_=>none
 | _+1,[]=>some []
 | n+1,v::l=>bnd (ofV n v) fun a=>bnd (zhT n l) fun m=>some (a::m)
end
def Env.zero (E:Env) (t:TypeId):Option zb:=bnd (E.types.get t) fun i=>bnd i.zero fun v=>ofV 5000 v
def zl.row (H:zl) (b:Nat):Option Row:=bnd (H.blk.get b) zog
def zqK (b:zo):Option Row:=zo.rec (fun t n c=>some ⟨t,n,c⟩) (fun _ _=>none) (fun _ _ _ _ _ _ _ _=>none) (fun _ _=>none) (fun _ _=>none) (fun _ _ _=>none) (fun _ _=>none) (fun _=>none) b
def zl.zqq (H:zl) (b:Nat):Option Row:=bnd (H.blk.get b) zqK
def zsF (b:zo):Option (Tr zb):=zo.rec (fun _ _ _=>none) (fun _ _=>none) (fun _ _ _ _ _ _ _ _=>none) (fun _ _=>none) (fun _ _=>none) (fun _ _ _=>none) (fun _ _=>none) (fun c=>some c) b
def zl.zf6 (H:zl) (b off:Nat):Option zb:=zh (H.row b) (bnd (H.blk.get b) fun k=>bnd (zsF k) fun c=>c.get off) fun r=>r.c.get off
def zl.kp (H:zl) (b off n:Nat):Option (List zb):=bnd (H.row b) fun r=>Tr.Ji n r.c off
def zl.put (H:zl) (b:Nat) (r:Row) (c:Tr zb):zl:=⟨H.blk.set b (.cells r.t r.n c),H.next⟩
def zl.QQ (H:zl) (b off:Nat) (l:List zb):Option zl:=
 bnd (H.row b) fun r=>ifB (zq (Nat.ble 100 b) (zq (Nat.ble (Nat.add off (qM l 0)) r.n) (Qq yw l))) (some (H.put b r (Tr.zkD l r.c off))) none
def zl.new (H:zl) (t:TypeId) (l:List zb):zl:=⟨H.blk.set H.next (.cells t (qM l 0) (Tr.ofList l)),Nat.succ H.next⟩
structure Pk where
 t:TypeId
 n:Nat
 N:Nat
def zeC (b:zo):Option Pk:=zo.rec (fun _ _ _=>none) (fun _ _=>none) (fun _ _ _ _ _ _ _ _=>none) (fun _ _=>none) (fun _ _=>none) (fun t n N=>some ⟨t,n,N⟩) (fun _ _=>none) (fun _=>none) b
abbrev R:=Option (zb×zl)
def Zw (H:zl) (v:Option zb):R:=bnd v fun v=>some (v,H)
def zhY (H:zl) (t:TypeId) (l:List zb) (f:Nat→zb):R:=frc H.next fun m=>some (f m,zl.new ⟨H.blk,m⟩ t l)
def Env.loadVar (E:Env) (H:zl) (t:TypeId) (b off:Nat):Option zb:=
 bnd (E.isAgg t) fun g=>ifB g (bnd (E.size t) fun n=>bnd (H.kp b off n) fun l=>some (.agg l)) (H.zf6 b off)
def Env.storeVar (E:Env) (H:zl) (t:TypeId) (b off:Nat) (v:zb):Option zl:=
 bnd (E.size t) fun n=>ifB (Nat.beq (qM (zP v) 0) n) (H.QQ b off (zP v)) none
def half (k:IntKind):Nat:=@IntKind.rec (fun _=>Nat) 128 32768 2147483648 9223372036854775808 256 65536 4294967296 18446744073709551616 k
def full (k:IntKind):Nat:=@IntKind.rec (fun _=>Nat) 256 65536 4294967296 18446744073709551616 256 65536 4294967296 18446744073709551616 k
def zmW (k:IntKind):Nat:=@IntKind.rec (fun _=>Nat) 8 16 32 64 8 16 32 64 k
def Zz (k:IntKind) (n:Int):Nat:=Zv n (fun m=>Nat.mod m (full k)) fun m=>Nat.sub (Nat.sub (full k) 1) (Nat.mod m (full k))
def back (k:IntKind) (m:Nat):Int:=ifB (Nat.blt m (half k)) (.ofNat m) (.negSucc (Nat.sub (Nat.sub (full k) 1) m))
def yH (k:IntKind) (n:Int):Int:=back k (Zz k n)
def mkInt (k:IntKind) (n:Int):zb:=Zv n (fun m=>frc m fun m=>.int k (.ofNat m)) fun m=>frc m fun m=>.int k (.negSucc m)
def jl (b:Bool):zb:=ifB b (.bool true) (.bool false)
def mkNat (n:Nat):zb:=frc n fun m=>.int .i64 (.ofNat m)
def Xx {α:Type u} (i:Int) (f:Nat→Option α):Option α:=Zv i f fun _=>none
end
end Go.AEv
namespace Go.AEv
universe u
noncomputable section
def zoF:zb:=.str [256]
def Ur (v:zb):Bool:=match v with | .str l=>lC l false fun a _=>Nat.beq a 256 | _=>false
def zj4 (t:Nat) (T:Tr zb):Option zb:=zh (T.get t) (some qW) fun v=>ifB (Ur v) none (some v)
def zpC (v:Value) (_:Tr zb):Option zb:=ofV 5000 v
def znV (g:Nat) (_:Tr zb):Option zb:=ifB (Nat.blt g 60) (some (.ptr g 0)) none
def zsw (f:Nat) (_:Tr zb):Option zb:=some (.fn f [] [])
def ev (T:Tr zb) (o:Operand):Option zb:=@Operand.rec (fun _=>Tr zb→Option zb) zj4 zpC znV zsw o T
def evs (T:Tr zb) (l:List Operand):Option (List zb):=List.rec (some []) (fun o _ ih=>bnd (ev T o) fun a=>bnd ih fun m=>some (a::m)) l
def zer (T:Tr zb) (l:List (Nat×Operand)):Option (List (Nat×zb)):=
 List.rec (some []) (fun o _ ih=>bnd (ev T o.2) fun a=>bnd ih fun m=>some ((o.1,a)::m)) l
def evO (T:Tr zb) (o:Option Operand):Option (Option zb):=zh o (some none) fun o=>bnd (ev T o) fun v=>some (some v)
def Y4 (m n:Nat):Int:=ifB (Nat.ble n m) (.ofNat (Nat.sub m n)) (.negSucc (Nat.sub (Nat.sub n m) 1))
def zsg (a:Int):Int:=Zv a (fun m=>Y4 0 m) fun m=>.ofNat (Nat.succ m)
def zia (a b:Int):Int:=
 Zv a (fun m=>Zv b (fun n=>.ofNat (Nat.add m n)) fun n=>Y4 m (Nat.succ n))
  fun m=>Zv b (fun n=>Y4 n (Nat.succ m)) fun n=>.negSucc (Nat.succ (Nat.add m n))
def zpk (a b:Int):Int:=zia a (zsg b)
def zel (a b:Int):Int:=
 Zv a (fun m=>Zv b (fun n=>.ofNat (Nat.mul m n)) fun n=>Y4 0 (Nat.mul m (Nat.succ n)))
  fun m=>Zv b (fun n=>Y4 0 (Nat.mul (Nat.succ m) n)) fun n=>.ofNat (Nat.mul (Nat.succ m) (Nat.succ n))
def zjR (a b:Int):Int:=
 Zv a (fun m=>Zv b (fun n=>.ofNat (Nat.div m n)) fun n=>Y4 0 (Nat.div m (Nat.succ n)))
  fun m=>Zv b (fun n=>Y4 0 (Nat.div (Nat.succ m) n)) fun n=>.ofNat (Nat.div (Nat.succ m) (Nat.succ n))
def zgf (a b:Int):Int:=
 Zv a (fun m=>Zv b (fun n=>.ofNat (Nat.mod m n)) fun n=>.ofNat (Nat.mod m (Nat.succ n)))
  fun m=>Zv b (fun n=>Y4 0 (Nat.mod (Nat.succ m) n)) fun n=>Y4 0 (Nat.mod (Nat.succ m) (Nat.succ n))
abbrev IOp:=IntKind→Int→IntKind→Int→Option zb
def same (k j:IntKind) (v:zb):Option zb:=ifB (znv k j) (some v) none
def zxT:IOp:=fun k a j b=>same k j (mkInt k (yH k (zia a b)))
def zxG:IOp:=fun k a j b=>same k j (mkInt k (yH k (zpk a b)))
def zxM:IOp:=fun k a j b=>same k j (mkInt k (yH k (zel a b)))
def zxK:IOp:=fun k a j b=>ifB (KJ b (.ofNat 0)) none (same k j (mkInt k (yH k (zjR a b))))
def zxJ:IOp:=fun k a j b=>ifB (KJ b (.ofNat 0)) none (same k j (mkInt k (zgf a b)))
def zxS:IOp:=fun k a j b=>same k j (mkInt k (back k (Nat.land (Zz k a) (Zz k b))))
def iOr:IOp:=fun k a j b=>same k j (mkInt k (back k (Nat.lor (Zz k a) (Zz k b))))
def zxF:IOp:=fun k a j b=>same k j (mkInt k (back k (Nat.xor (Zz k a) (Zz k b))))
def zpn:IOp:=fun k a j b=>same k j (mkInt k (back k (Nat.land (Zz k a) (Nat.xor (Zz k b) (Nat.sub (full k) 1)))))
def shN (k:IntKind) (y:Nat):Nat:=ifB (Nat.ble y (zmW k)) y (zmW k)
def zxI:IOp:=fun k a _ b=>Xx b fun y=>some (mkInt k (yH k (zel a (.ofNat (Nat.pow 2 (shN k y))))))
def zxH:IOp:=fun k a _ b=>Xx b fun y=>some (mkInt k (Zv a (fun m=>.ofNat (Nat.div m (Nat.pow 2 (shN k y)))) fun m=>.negSucc (Nat.div m (Nat.pow 2 (shN k y)))))
def zxR:IOp:=fun k a j b=>same k j (jl (KJ a b))
def zxL:IOp:=fun k a j b=>same k j (jl (j8 (KJ a b)))
def zxN:IOp:=fun k a j b=>same k j (jl (ilt a b))
def zxO:IOp:=fun k a j b=>same k j (jl (j8 (ilt b a)))
def zxP:IOp:=fun k a j b=>same k j (jl (ilt b a))
def zxQ:IOp:=fun k a j b=>same k j (jl (j8 (ilt a b)))
def Jv (op:BinOp):IOp:=@BinOp.rec (fun _=>IOp) zxT zxG zxM zxK zxJ zxS iOr zxF zxI zxH zpn zxR zxL zxN zxO zxP zxQ op
def VH (l:List Nat):List Nat→Bool:=
 List.rec (motive:=fun _=>List Nat→Bool) (fun m=>lC m false fun _ _=>true)
  (fun a _ ih m=>lC m false fun b m=>ifB (Nat.blt a b) true (ifB (Nat.beq a b) (ih m) false)) l
abbrev SOp:=List Nat→List Nat→Option zb
def Wo:SOp:=fun _ _=>none
def zxe:SOp:=fun a b=>ifB (Nat.ble (qM a (qM b 0)) 1000000000) (some (.str (zQ a b))) none
def zxd:SOp:=fun a b=>some (jl (zcd a b))
def zw8:SOp:=fun a b=>some (jl (j8 (zcd a b)))
def zw9:SOp:=fun a b=>some (jl (VH a b))
def zxa:SOp:=fun a b=>some (jl (j8 (VH b a)))
def zxb:SOp:=fun a b=>some (jl (VH b a))
def zxc:SOp:=fun a b=>some (jl (j8 (VH a b)))
def zq5 (op:BinOp):SOp:=@BinOp.rec (fun _=>SOp) zxe Wo Wo Wo Wo Wo Wo Wo Wo Wo Wo zxd zw8 zw9 zxa zxb zxc op
def zmK (op:BinOp):Nat:=@BinOp.rec (fun _=>Nat) 0 1 2 3 4 5 6 7 8 9 10 11 12 13 14 15 16 op
def findF {α:Type} (p:Fact→Option α) (l:List Fact):Option α:=List.rec none (fun f _ ih=>zh (p f) ih some) l
def za9 (op:BinOp) (a b:zb) (f:Fact):Option zb:=match f with | .bin o x y r=>ifB (zq (Nat.beq (zmK op) (zmK o)) (zq (qf a x) (qf b y))) (some r) none | .binF g=>g op a b | _=>none
def mUn (op:UnOp) (a:zb) (f:Fact):Option zb:=match f with | .unF g=>g op a | _=>none
def mEq (sh:Nat) (a b:zb) (f:Fact):Option Bool:=match f with | .eq h x y r=>ifB (zq (Nat.beq sh h) (zq (qf a x) (qf b y))) (some r) none | _=>none
def znm (k:IntKind) (a:zb) (f:Fact):Option zb:=match f with | .conv j x r=>ifB (zq (znv k j) (qf a x)) (some r) none | _=>none
def zcb (a:zb) (f:Fact):Option zb:=match f with | .len x r=>ifB (qf a x) (some r) none | _=>none
def zr8 (a b:zb) (f:Fact):Option zb:=match f with | .min x y r=>ifB (zq (qf a x) (qf b y)) (some r) none | _=>none
def zr9 (a b:zb) (f:Fact):Option zb:=match f with | .max x y r=>ifB (zq (qf a x) (qf b y)) (some r) none | _=>none
def zna (a l h:zb) (f:Fact):Option zb:=match f with | .sub x y z r=>ifB (zq (qf a x) (zq (qf l y) (qf h z))) (some r) none | _=>none
def zne (a:zb) (f:Fact):Option zb:=match f with | .slen x r=>ifB (qf a x) (some r) none | _=>none
def znc (a h:zb) (f:Fact):Option zb:=match f with | .ssub x y r=>ifB (zq (qf a x) (qf h y)) (some r) none | _=>none
def zf1 (g:FuncId) (as:List zb) (f:Fact):Option zb:=match f with | .call h bs r=>ifB (zq (Nat.beq g h) (j9 as bs)) (some r) none | .callF p=>p g as | _=>none
def mAt (a:zb) (i:Nat) (f:Fact):Option zb:=match f with | .at_ x j r=>ifB (zq (qf a x) (Nat.beq i j)) (some r) none | _=>none
def zjK (l:List zb) (f:Fact):Option zb:=match f with | .pack m r=>ifB (j9 l m) (some r) none | _=>none
def shapeOf (d:TypeDesc):Option Nat:=match d with | .int _=>some 1 | .string=>some 2 | .bool=>some 3 | _=>none
def zl6 (E:Env) (t:TypeId) (a b:zb):Option Bool:=bnd (E.desc t) fun d=>bnd (shapeOf d) fun sh=>findF (mEq sh a b) E.facts
def Env.apart (E:Env) (t:TypeId) (cs:List zb) (off:Nat):Option zb:=
 bnd (E.isAgg t) fun g=>ifB g (bnd (E.size t) fun n=>some (.agg (zaq n (zdm off cs)))) (kg off cs)
mutual
def JR (E : Env) (H : zl) : Nat → TypeId → zb → zb → Option Bool
  | 0, _, _, _ => none
  | f + 1, t, x, y => ifB (zq (j8 (Ju x)) (j8 (Ju y)))
   (match E.desc t, x, y with
    | some .bool, .bool a, .bool b => some (zlB a b)
    | some (.int _), .int k a, .int j b => match znv k j with | true => some (KJ a b) | false => none
    | some .string, .str a, .str b => some (zcd a b)
    | some (.pointer _), .nilp, .nilp => some true
    | some (.pointer _), .nilp, .ptr _ _ => some false
    | some (.pointer _), .ptr _ _, .nilp => some false
    | some (.pointer e), .ptr a i, .ptr b j =>
      match E.size e with
      | none => none
      | some 0 => none
      | some (_ + 1) =>
        match H.row a, H.row b with
        | some _, some _ => match Nat.beq a b with | true => some (Nat.beq i j) | false => none
        | _, _ => none
    | some (.map _ _), .nilmap, .nilmap => some true
    | some (.map _ _), .nilmap, .map _ => some false
    | some (.map _ _), .map _, .nilmap => some false
    | some (.slice _), .nilslice, .nilslice => some true
    | some (.slice _), .nilslice, .slice _ _ _ _ _ => some false
    | some (.slice _), .slice _ _ _ _ _, .nilslice => some false
    | some (.slice _), .nilslice, .esl _ _ _ => some false
    | some (.slice _), .esl _ _ _, .nilslice => some false
    | some (.slice _), .nilslice, .osl _ _ => some false
    | some (.slice _), .osl _ _, .nilslice => some false
    | some (.slice _), .nilslice, .psl _ _ _ _ _ => some false
    | some (.slice _), .psl _ _ _ _ _, .nilslice => some false
    | some (.func _ _ _), .nilfn, .nilfn => some true
    | some (.func _ _ _), .nilfn, .fn _ _ _ => some false
    | some (.func _ _ _), .fn _ _ _, .nilfn => some false
    | some (.interface _), .niliface, .niliface => some true
    | some (.interface _), .niliface, .iface _ _ => some false
    | some (.interface _), .iface _ _, .niliface => some false
    | some (.interface _), .iface ta va, .iface tb vb =>
      match Nat.beq ta tb with
      | false => some false
      | true =>
        match E.types.get ta with
        | none => none
        | some i => match i.comparable with | true => JR E H f ta va vb | false => none
    | some (.struct fs), .agg xs, .agg ys => match E.P.stoodInHeld t with | true => none | false => QM E H f fs.toList xs ys
    | some (.array n e), .agg xs, .agg ys =>
      match E.size e with
      | none => none
      | some s => Ym E H f e s (List.range n) xs ys
    | _, _, _ => none) (zl6 E t x y)
def QM (E:Env) (H:zl):Nat→List Field→List zb→List zb→Option Bool
 | 0,_,_,_=>none
 | _+1,[],_,_=>some true
 | f+1,d::ds,xs,ys=>
  ifB (d.name == "_") none (bnd (E.apart d.type xs d.offset) fun a=>bnd (E.apart d.type ys d.offset) fun b=>
   bnd (JR E H f d.type a b) fun r=>ifB r (QM E H f ds xs ys) (some false))
def Ym (E:Env) (H:zl):Nat→TypeId→Nat→List Nat→List zb→List zb→Option Bool
 | 0,_,_,_,_,_=>none
 | _+1,_,_,[],_,_=>some true
 | f+1,e,s,i::is,xs,ys=>
  bnd (E.apart e xs (Nat.mul i s)) fun a=>bnd (E.apart e ys (Nat.mul i s)) fun b=>
   bnd (JR E H f e a b) fun r=>ifB r (Ym E H f e s is xs ys) (some false)
end
def isConst (o:Operand):Bool:=match o with | .const _=>true | _=>false
def zdk (E:Env) (t:TypeId) (x y:Operand) (a:zb):Bool:=
 match a with
 | .niliface=>ifB (isConst x) true (isConst y)
 | .agg _=>j8 (E.P.eqGuardType E.P.depth t)
 | _=>true
def zxY (E:Env) (H:zl) (t:TypeId) (x y:Operand) (a b:zb) (f:Bool→Bool):Option zb:=
 ifB (zdk E t x y a) (bnd (JR E H 10000 t a b) fun r=>some (jl (f r))) none
def zj5 (op:BinOp):Option (Bool→Bool):=match op with | .eql=>some (fun b=>b) | .neq=>some j8 | _=>none
def zrh (op:BinOp):Bool:=match op with | .gtr=>true | _=>false
def zrt (op:BinOp) (m:Int) (b:zb):Option zb:=
 match b with
 | .capv _ c=>ifB (zrh op) (Xx m fun m=>ifB (Nat.ble m c) (some (.bool false)) none) none
 | _=>none
def zwM (E:Env) (H:zl) (op:BinOp) (t:TypeId) (x y:Operand) (a b:zb):Option zb:=
 bnd (zj5 op) fun f=>zxY E H t x y a b f
def zrx (E:Env) (H:zl) (op:BinOp) (t:TypeId) (x y:Operand) (a b:zb):Option zb:=
 zh (jb a) (zwM E H op t x y a b) fun m=>bnd (jb b) fun n=>zq5 op m n
def zwN (op:BinOp) (k:IntKind) (m:Int) (b:zb):Option zb:=ifB (XB k) (zrt op m b) none
def zhf (E:Env) (op:BinOp) (t:TypeId) (a b:zb):Option zb:=
 zh (findF (za9 op a b) E.facts) (bnd (zj5 op) fun f=>bnd (zl6 E t a b) fun r=>some (jl (f r))) some
def zsL (E : Env) (H : zl) (op : BinOp) (t : TypeId) (x y : Operand) (a b : zb) : Option zb := ifB (zq (j8 (Ju a)) (j8 (Ju b)))
 (  zh (asInt a) (zrx E H op t x y a b) fun p => zh (asInt b) (zwN op p.1 p.2 b) fun q => Jv op p.1 p.2 q.1 q.2) (zhf E op t a b)
def inB {α:Type u} (i:Int) (n:Nat) (f:Nat→Option α):Option α:=Zv i (fun m=>ifB (Nat.blt m n) (f m) none) fun _=>none
def jo {α:Type u} (v:Option zb) (dflt most:Nat) (f:Nat→Option α):Option α:=
 zh v (f dflt) fun v=>bnd (XM v) fun i=>Xx i fun m=>ifB (Nat.ble m most) (f m) none
def Wa (v:zb):Option Nat:=bnd (asInt v) fun p=>ifB (zei p.1) (Xx p.2 fun n=>some (Nat.mod n 256)) none
def V3 (p:zb→Option Nat) (l:List zb):List Nat→Option (List Nat):=List.rec (motive:=fun _=>List Nat→Option (List Nat)) (fun acc=>some acc) (fun v _ ih acc=>bnd (p v) fun b=>ih (b::acc)) l
def zoN (l:List Nat):List Nat→List Nat:=List.rec (motive:=fun _=>List Nat→List Nat) (fun acc=>acc) (fun a _ ih acc=>frc 0 fun _=>ih (a::acc)) l
def Yh (p:zb→Option Nat) (l:List zb):Option (List Nat):=bnd (V3 p l []) fun r=>some (zoN r [])
def V4 (l:List zb):Option (List Nat):=Yh Wa l
def u8 (b:Nat):zb:=.int .u8 (.ofNat b)
def zhe (E:Env) (x:zb) (lo hi mx:Option zb):Option zb:=
 zh mx (zh hi none fun h=>zh lo (findF (zna x (.int .i64 (.ofNat 0)) h) E.facts) fun l=>findF (zna x l h) E.facts) fun _=>none
def zmb (s:List Nat) (lo hi mx:Option zb):Option zb:=
 zh mx (jo hi (qM s 0) (qM s 0) fun h=>jo lo 0 h fun l=>some (.str (zdm l (zaq h s)))) fun _=>none
def VF (b off h l m sz:Nat) (ex:Bool):Option zb:=
 ifB (Nat.beq m l)
  (ifB ex (some (.slice b off (Nat.sub h l) (Nat.sub m l) true)) (frc (Nat.add off (Nat.mul l sz)) fun o=>some (.esl b off o)))
  (frc (Nat.add off (Nat.mul l sz)) fun o=>frc (Nat.sub h l) fun n=>frc (Nat.sub m l) fun c=>some (.slice b o n c ex))
def Vq (s:Sl) (sz:Nat) (lo hi mx:Option zb):Option zb:=
 jo mx s.cap s.cap fun m=>jo hi s.len m fun h=>jo lo 0 h fun l=>VF s.b s.off h l m sz (zh mx s.ex fun _=>true)
def zfq (lo hi mx:Option zb):Option zb:=
 jo mx 0 0 fun m=>jo hi 0 m fun h=>jo lo 0 h fun _=>some .nilslice
def zmd (n sz b off:Nat) (lo hi mx:Option zb):Option zb:=
 jo mx n n fun m=>jo hi n m fun h=>jo lo 0 h fun l=>VF b off h l m sz true
def isZ (o:Option zb):Bool:=zh o true fun v=>zh (XM v) false fun i=>KJ i (.ofNat 0)
def zmc (b:Nat) (v:zb) (lo hi mx:Option zb):Option zb:=
 ifB (isZ lo) (zh mx (zh hi (some (.osl b v)) fun _=>none) fun _=>zh hi none fun _=>ifB (zq (isZ mx) (isZ hi)) (some (.slice b 0 0 0 true)) none) none
def zdw (v:zb):Option Nat:=match v with | .sym i=>some i | _=>none
def znh (q:Nat) (f:Fact):Option (Nat×Nat):=match f with | .num p lo hi=>ifB (Nat.beq q p) (some (lo,hi)) none | _=>none
def znk (q m:Nat) (f:Fact):Option Nat:=match f with | .diff p k r=>ifB (zq (Nat.beq q p) (Nat.beq m k)) (some r) none | _=>none
def zfp (E:Env) (s:Sl) (lo hi mx:Option zb):Option zb:=
 zh mx (bnd hi fun h=>bnd (zdw h) fun q=>bnd (findF (znh q) E.facts) fun n=>ifB (zq (isZ lo) (zq (Nat.blt 0 s.cap) (Nat.ble n.2 s.cap))) (some (.psl s.b s.off q s.cap s.ex)) none) fun _=>none
def zay (E:Env) (p:Psl) (sz:Nat) (lo hi mx:Option zb):Option zb:=
 zh mx
  (zh hi
   (ifB (zq (isZ lo) (Nat.blt 0 p.c)) (some (.psl p.b p.o p.q p.c p.ex))
    (bnd lo fun l=>bnd (XM l) fun i=>Xx i fun m=>bnd (findF (znh p.q) E.facts) fun n=>ifB (zq (Nat.blt m p.c) (Nat.ble m n.1))
     (bnd (findF (znk p.q m) E.facts) fun q=>frc (Nat.add p.o (Nat.mul m sz)) fun o=>frc (Nat.sub p.c m) fun c=>some (.psl p.b o q c p.ex)) none))
   fun h=>jo (some h) 0 p.c fun k=>jo lo 0 k fun l=>VF p.b p.o k l p.c sz p.ex)
  fun _=>none
def zfo (E:Env) (x:zb) (lo hi mx:Option zb):Option zb:=
 zh mx (ifB (isZ lo) (bnd hi fun h=>findF (znc x h) E.facts) none) fun _=>none
def zqJ (E:Env) (t:TypeId) (x:zb) (lo hi mx:Option zb):Option zb:=
 bnd (E.desc t) fun d=>
  zh (jQ d)
   (zh (ZO d)
    (ifB (ki d) (zh (jb x) (zhe E x lo hi mx) fun s=>zmb s lo hi mx) none)
    fun q=>bnd (E.size q.2) fun sz=>bnd (JB x) fun p=>zmd q.1 sz p.1 p.2 lo hi mx)
   fun e=>bnd (E.size e) fun sz=>zh (kr x) (ifB (jT x) (zfq lo hi mx) (zh (Qf x) (zh (zdx x) (zfo E x lo hi mx) fun p=>zay E p sz lo hi mx) fun p=>zmc p.1 p.2 lo hi mx)) fun s=>zh (bnd hi zdw) (Vq s sz lo hi mx) fun _=>zfp E s lo hi mx
def zmO (hi mx:Option zb):Bool:=zh mx true fun _=>zh hi false fun _=>true
def zoe (E:Env) (t:TypeId) (x:zb) (lo hi mx:Option zb):Option zb:=
 ifB (zmO hi mx) (zqJ E t x lo hi mx) none
def yy (H:zl) (sz:Nat) (x:zb):Option (Nat×List zb):=
 zh (kr x)
  (zh (jb x) (ifB (jT x) (some (0,[])) none) fun s=>some (qM s 0,mapA u8 s))
  fun s=>bnd (H.kp s.b s.off (Nat.mul s.len sz)) fun l=>some (s.len,l)
def roomy (n bytes:Nat):Bool:=zq (Nat.ble (Nat.mul n bytes) 1000000000) (Nat.ble n 1000000000)
def Qp (H:zl) (e:TypeId) (n:Nat) (l:List zb):R:=ifB (Qq yw l) (frc n fun n=>zhY H e l fun m=>.slice m 0 n n false) none
def Zo (H:zl) (e:TypeId) (sz:Nat) (s:Sl) (n:Nat) (new:List zb):R:=
 bnd (H.row s.b) fun r=>bnd (Tr.Ji (Nat.mul s.len sz) r.c s.off) fun old=>
  ifB s.ex (Qp H e (Nat.add s.len n) (zQ old new))
   (ifB (zq (Nat.ble 100 s.b) (zq (Nat.beq r.t e) (zq (Nat.beq (Nat.mod s.off sz) 0) (Nat.beq (Nat.add s.off (Nat.mul s.cap sz)) r.n)))) (Qp ⟨H.blk.del s.b,H.next⟩ e (Nat.add s.len n) (zQ old new)) none)
def tight (t:Tr zb):Nat→Bool:=
 Tr.rec (motive:=fun _=>Nat→Bool) (fun n=>Nat.beq n 0)
  (fun _ v _ il ir n=>qP n false fun m=>zh v false fun a=>ifB (yw a) (frc (Nat.div (Nat.succ m) 2) fun p=>frc (Nat.div m 2) fun q=>ifB (il p) (ir q) false) false) t
def zak (H:zl) (e:TypeId) (n N:Nat) (c:Tr zb) (new:List zb):R:=
 ifB (Qq yw new) (frc n fun n=>frc H.next fun m=>frc (Nat.add N (qM new 0)) fun k=>some (.slice m 0 n n false,⟨H.blk.set m (.cells e k (Tr.zkD new c N)),Nat.succ m⟩)) none
def zeJ (H:zl) (e:TypeId) (sz:Nat) (s:Sl) (n:Nat) (new:List zb):R:=
 bnd (H.row s.b) fun r=>frc (Nat.mul s.len sz) fun N=>ifB (zq (Nat.beq s.off 0) (tight r.c N))
  (ifB s.ex (zak H e (Nat.add s.len n) N r.c new)
   (ifB (zq (Nat.ble 100 s.b) (zq (Nat.beq r.t e) (zq (Nat.beq (Nat.mod s.off sz) 0) (Nat.beq (Nat.add s.off (Nat.mul s.cap sz)) r.n)))) (zak ⟨H.blk.del s.b,H.next⟩ e (Nat.add s.len n) N r.c new) none))
  (Zo H e sz s n new)
def zoj (H:zl) (sz:Nat) (s:Sl) (n:Nat) (new:List zb):R:=
 bnd (H.QQ s.b (Nat.add s.off (Nat.mul s.len sz)) new) fun H'=>frc (Nat.add s.len n) fun m=>some (.slice s.b s.off m s.cap s.ex,H')
def kJ (E:Env) (e:TypeId) (sz:Nat):Bool:=zh (E.zero e) false fun z=>Nat.beq (qM (zP z) 0) sz
def K1 (E:Env) (H:zl) (e:TypeId) (i:TypeInfo) (s:zb) (n:Nat) (new:List zb):R:=
 zh (kr s)
  (ifB (jT s) (qP n (some (.nilslice,H)) fun _=>ifB (zq (kJ E e i.size) (roomy n i.bytes)) (Qp H e n new) none) none)
  fun q=>ifB (Nat.ble (Nat.add q.len n) q.cap) (zoj H i.size q n new)
   (ifB (zq (kJ E e i.size) (roomy (Nat.add q.len n) i.bytes)) (Zo H e i.size q n new) none)
def zoi (E:Env) (H:zl) (e:TypeId) (i:TypeInfo) (s:zb) (n:Nat) (new:List zb):R:=
 zh (kr s)
  (ifB (jT s) (qP n (some (.nilslice,H)) fun _=>ifB (zq (kJ E e i.size) (roomy n i.bytes)) (Qp H e n new) none) none)
  fun q=>ifB (Nat.ble (Nat.add q.len n) q.cap) (zoj H i.size q n new)
   (ifB (zq (kJ E e i.size) (roomy (Nat.add q.len n) i.bytes)) (zeJ H e i.size q n new) none)
def isInt (d:TypeDesc):Bool:=match d with | .int _=>true | _=>false
def zlE (E:Env) (e:TypeId) (i:TypeInfo) (x:zb):Option (Nat×List zb):=
 bnd (asInt x) fun q=>ifB (XB q.1) (Xx q.2 fun n=>ifB (roomy n i.bytes)
  (bnd (E.zero e) fun z=>ifB (Nat.beq (qM (zP z) 0) i.size) (some (n,Qy (zP z) n)) none) none) none
def V5 (v:zb):Option Nat:=bnd (asInt v) fun p=>ifB (zei p.1) (Xx p.2 fun n=>ifB (Nat.blt n 256) (some n) none) none
def Qe (l:List zb):Option (List Nat):=Yh V5 l
def pkL (H:zl) (q:Sl):Option (List Nat):=
 bnd (H.blk.get q.b) fun b=>bnd (zeC b) fun p=>ifB (Nat.ble (Nat.add q.off q.len) p.n) (frc (Yu p.N q.off q.len) fun N=>some (unpL q.len N)) none
def Yt (E:Env) (H:zl) (x:zb):Option zb:=
 zh (Qf x)
  (zh (kr x)
   (ifB (jT x) (some (.str [])) (ifB (Ju x) (bnd (findF (zcb x) E.facts) fun _=>some x) (bnd (jb x) fun _=>some x)))
   fun s=>zh (pkL H s) (ifB (Nat.beq s.len 0) (some (.str [])) (bnd (H.kp s.b s.off s.len) fun cs=>zh (Qe cs) (findF (zjK cs) E.facts) fun l=>some (.str l))) fun l=>some (.str l))
  fun p=>bnd (H.blk.get p.1) fun b=>bnd (KZ b) fun q=>ifB (qf q.2 p.2) (some p.2) none
def VP (v:zb):Bool:=zh (jb v) false fun s=>lC s true fun _ _=>false
def zqB (E:Env) (a b:zb):Option zb:=
 ifB (VP a) (some b) (zh (jb a) (findF (za9 .add a b) E.facts) fun s=>zh (jb b) (findF (za9 .add a b) E.facts) fun t=>some (.str (zQ s t)))
def zfm (E:Env) (v:zb):Bool:=zh (jb v) (zh (findF (mEq 2 v (.str [])) E.facts) false j8) fun s=>lC s false fun _ _=>true
def zdW (E:Env) (v:zb):Bool:=
 zh (jb v) (zh (findF (zcb v) E.facts) false fun l=>zh (asInt l) (zh (findF (za9 .gtr l (.int .i64 (.ofNat 1000000000))) E.facts) false fun r=>zh (asBool r) false j8) fun p=>j8 (ilt (.ofNat 1000000000) p.2)) fun s=>Nat.ble (qM s 0) 1000000000
def zr0 (H:zl) (e:TypeId) (c:zb):R:=frc H.next fun m=>some (.osl m c,⟨H.blk.set m (.text e c),Nat.succ m⟩)
def zj6 (H:zl) (e:TypeId) (s:zb):Option zl:=
 zh (Qf s)
  (zh (kr s) (ifB (jT s) (some H) none)
   fun q=>ifB q.ex (ifB (Nat.beq q.len q.cap) (some H) none)
    (bnd (H.row q.b) fun r=>ifB (zq (Nat.ble 100 q.b) (zq (Nat.beq r.t e) (zq (Nat.beq q.off 0) (Nat.beq q.cap r.n)))) (some ⟨H.blk.del q.b,H.next⟩) none))
  fun p=>bnd (H.blk.get p.1) fun b=>bnd (KZ b) fun q=>ifB (zq (Nat.ble 100 p.1) (Nat.beq q.1 e)) (some ⟨H.blk.del p.1,H.next⟩) none
def zsH (E:Env) (H:zl) (e:TypeId) (s x:zb):R:=
 bnd (E.desc e) fun d=>bnd (XG d) fun k=>bnd (E.types.get e) fun i=>ifB (zq (zei k) (zq (Nat.beq i.size 1) (zq (Nat.beq i.bytes 1) (kJ E e 1))))
  (bnd (Yt E H s) fun a=>bnd (Yt E H x) fun b=>bnd (zj6 H e s) fun H'=>ifB (VP b) (some (s,H))
   (ifB (zfm E b) (bnd (zqB E a b) fun c=>ifB (zdW E c) (zr0 H' e c) none) none)) none
def zeE (b:zo):Option (TypeId×zb):=zo.rec (fun _ _ _=>none) (fun _ _=>none) (fun _ _ _ _ _ _ _ _=>none) (fun _ _=>none) (fun _ _=>none) (fun _ _ _=>none) (fun t v=>some (t,v)) (fun _=>none) b
def zhz (E:Env) (v:zb):Bool:=
 zh (jb v) (zh (findF (zcb v) E.facts) false fun l=>zh (findF (za9 .gtr l (.int .i64 (.ofNat 100000000))) E.facts) false fun r=>zh (asBool r) false j8) fun s=>Nat.ble (qM s 0) 100000000
def zuc (H:zl) (e:TypeId) (c:zb):R:=frc H.next fun m=>some (.osl m c,⟨H.blk.set m (.ints e c),Nat.succ m⟩)
def zwH (E:Env) (H:zl) (e:TypeId) (s x:zb):R:=
 bnd (E.desc e) fun d=>bnd (XG d) fun k=>bnd (E.types.get e) fun i=>ifB (zq (XB k) (zq (Nat.beq i.size 1) (zq (Nat.ble i.bytes 8) (kJ E e 1))))
  (bnd (kr s) fun q=>ifB (zq q.ex (Nat.beq q.cap 0)) (bnd (Qf x) fun p=>bnd (H.blk.get p.1) fun b=>bnd (zeE b) fun r=>
   ifB (zq (qf r.2 p.2) (zq (zfm E p.2) (zhz E p.2))) (zuc H e p.2) none) none) none
def znz (_:zl) (x:zb):Bool:=ifB (Ju x) true (zh (Qf x) false fun _=>true)
def K4 (E:Env) (H:zl) (sT xT:TypeId) (s x:zb):R:=
 bnd (E.desc sT) fun d=>bnd (jQ d) fun e=>bnd (E.desc xT) fun xd=>
  (bnd (E.types.get e) fun i=>bnd (ifB (isInt xd) (zlE E e i x) (yy H i.size x)) fun p=>ifB (Nat.beq (qM p.2 0) (Nat.mul p.1 i.size)) (K1 E H e i s p.1 p.2) none)
def zgY (E:Env) (H:zl) (sT xT:TypeId) (s x:zb):R:=
 bnd (E.desc sT) fun d=>bnd (jQ d) fun e=>bnd (E.desc xT) fun xd=>
  (bnd (E.types.get e) fun i=>bnd (ifB (isInt xd) (zlE E e i x) (yy H i.size x)) fun p=>ifB (Nat.beq (qM p.2 0) (Nat.mul p.1 i.size)) (zoi E H e i s p.1 p.2) none)
def pvS (H:zl) (q:Sl):Option (Nat×Nat):=
 bnd (H.blk.get q.b) fun b=>zh (zeC b)
  (bnd (H.kp q.b q.off q.len) fun l=>bnd (Qe l) fun bs=>some (q.len,Y5 bs 0 0))
  fun p=>ifB (Nat.ble (Nat.add q.off q.len) p.n) (some (q.len,Yu p.N q.off q.len)) none
def pv (H:zl) (x:zb):Option (Nat×Nat):=
 zh (kr x) (ifB (jT x) (some (0,0)) (bnd (jb x) fun s=>some (qM s 0,Y5 s 0 0))) fun q=>pvS H q
def Vz (H:zl) (e:TypeId) (n N:Nat):R:=frc n fun n=>frc N fun N=>frc H.next fun m=>some (.slice m 0 n n false,⟨H.blk.set m (.pack e n N),Nat.succ m⟩)
def zmG (H:zl) (q:Sl) (m M:Nat):R:=
 bnd (H.blk.get q.b) fun b=>bnd (zeC b) fun p=>frc (Nat.add q.off q.len) fun o=>ifB (zq (Nat.ble 100 q.b) (Nat.ble (Nat.add o m) p.n))
  (frc (KU o (Yu p.N 0 o) (KU m M (Nat.shiftRight p.N (Nat.mul 8 (Nat.add o m))))) fun N=>frc (Nat.add q.len m) fun l=>some (.slice q.b q.off l q.cap q.ex,⟨H.blk.set q.b (.pack p.t p.n N),H.next⟩)) none
def zhL (H : zl) (e : TypeId) (s : zb) (p : Nat × Nat) : R :=
    zh (kr s) (ifB (jT s) (qP p.1 none fun _ => ifB (roomy p.1 1) (Vz H e p.1 p.2) none) none)
      fun q => ifB (Nat.ble (Nat.add q.len p.1) q.cap) (zmG H q p.1 p.2)
        (ifB (roomy (Nat.add q.len p.1) 1) (bnd (pvS H q) fun a => frc (KU q.len a.2 p.2) fun N => ifB q.ex (Vz H e (Nat.add q.len p.1) N)
          (bnd (H.row q.b) fun r => ifB (zq (Nat.ble 100 q.b) (zq (Nat.beq r.t e) (Nat.beq (Nat.add q.off q.cap) r.n))) (Vz ⟨H.blk.del q.b, H.next⟩ e (Nat.add q.len p.1) N) none)) none)
def pvN (E:Env) (e:TypeId) (x:zb):Option (Nat×Nat):=
 bnd (asInt x) fun q=>ifB (XB q.1) (Xx q.2 fun n=>ifB (roomy n 1) (bnd (E.zero e) fun z=>ifB (qf z (u8 0)) (some (n,0)) none) none) none
def zd5 (E:Env) (H:zl) (sT xT:TypeId) (s x:zb):R:=
 bnd (E.desc sT) fun d=>bnd (jQ d) fun e=>bnd (E.desc xT) fun xd=>bnd (E.types.get e) fun i=>bnd (E.desc e) fun ed=>bnd (XG ed) fun k=>
  ifB (zq (zei k) (zq (Nat.beq i.size 1) (zq (Nat.beq i.bytes 1) (kJ E e 1)))) (bnd (ifB (isInt xd) (pvN E e x) (pv H x)) fun p=>zhL H e s p) none
def zeP (E:Env) (H:zl) (sT xT:TypeId) (s x:zb):R:=
 ifB (zq (j8 (znz H s)) (j8 (znz H x))) (zh (zd5 E H sT xT s x) (zgY E H sT xT s x) some)
  (bnd (E.desc sT) fun d=>bnd (jQ d) fun e=>bnd (E.desc xT) fun xd=>ifB (isInt xd) none (zh (zsH E H e s x) (zwH E H e s x) some))
def zkZ (a b:Nat):Nat:=ifB (Nat.ble a b) a b
def zrw (E:Env) (H:zl) (dT:TypeId) (d x:zb):R:=
 bnd (E.desc dT) fun t=>bnd (jQ t) fun e=>bnd (E.size e) fun sz=>bnd (yy H sz x) fun p=>
  ifB (Nat.beq (qM p.2 0) (Nat.mul p.1 sz)) (zh (kr d) (ifB (jT d) (some (mkNat 0,H)) none) fun q=>
   bnd (H.QQ q.b q.off (zaq (Nat.mul (zkZ p.1 q.len) sz) p.2)) fun H'=>some (mkNat (zkZ p.1 q.len),H')) none
def zsc (H:zl) (x:zb):Option zb:=bnd (zgK x) fun r=>bnd (H.blk.get r) fun b=>bnd (zeD b) fun m=>some (mkNat (qM m.1 0))
def VO (v:zb):Bool:=match v with | .nilmap=>true | _=>false
def zuI (E:Env) (H:zl) (d:TypeDesc) (x:zb):Option zb:=
 zh (ZO d)
  (zh (zlr d) (bnd (zix d) fun a=>bnd (E.desc a) fun d=>bnd (ZO d) fun q=>some (mkNat q.1))
   fun _=>ifB (VO x) (some (mkNat 0)) (zsc H x))
  fun q=>some (mkNat q.1)
def zwI (E:Env) (H:zl) (t:TypeId) (x:zb):Option zb:=
 bnd (E.desc t) fun d=>zh (jQ d) (ifB (ki d) (zh (jb x) (findF (zcb x) E.facts) fun s=>some (mkNat (qM s 0))) (zuI E H d x))
  fun _=>zh (kr x) (ifB (jT x) (some (mkNat 0)) (ifB (zri x) (some (mkNat 0)) (zh (Qf x) (zh (zdx x) (findF (zne x) E.facts) fun p=>some (.sym p.q)) fun p=>zh (jb p.2) (findF (zcb p.2) E.facts) fun s=>some (mkNat (qM s 0))))) fun s=>some (mkNat s.len)
def zwL (E:Env) (t:TypeId) (x:zb):Option zb:=
 bnd (E.desc t) fun d=>bnd (jQ d) fun _=>zh (kr x) (ifB (jT x) (some (mkNat 0)) none) fun s=>some (ifB s.ex (mkNat s.cap) (.capv s.b s.cap))
def zsI (l:List zb):zb→Option zb:=
 List.rec (motive:=fun _=>zb→Option zb) some
  (fun b _ ih a=>bnd (asInt a) fun p=>bnd (asInt b) fun q=>ih (.int p.1 (ifB (ilt q.2 p.2) q.2 p.2))) l
def zsJ (l:List zb):zb→Option zb:=
 List.rec (motive:=fun _=>zb→Option zb) some
  (fun b _ ih a=>bnd (asInt a) fun p=>bnd (asInt b) fun q=>ih (.int p.1 (ifB (ilt p.2 q.2) q.2 p.2))) l
def zoo (E:Env) (H:zl) (t:TypeId) (x:zb):R:=
 bnd (E.desc t) fun d=>bnd (jQ d) fun e=>zh (kr x) (ifB (jT x) (some (qW,H)) none) fun q=>
  qP q.len (some (qW,H)) fun _=>bnd (E.zero e) fun z=>bnd (H.QQ q.b q.off (Qy (zP z) q.len)) fun H'=>some (qW,H')
def Ve (H:zl) (x:zb):R:=
 zh (kr x) (ifB (jT x) (some (.nilp,H)) none) fun s=>qP s.cap none fun _=>some (.ptr s.b s.off,H)
def zeQ (E:Env) (H:zl) (pt:TypeId) (p:zb) (n:Nat):R:=
 qP n (ifB (zh7 p) (some (.str [],H)) (bnd (JB p) fun _=>some (.str [],H))) fun _=>
  bnd (JB p) fun q=>bnd (E.desc pt) fun d=>bnd (zix d) fun u=>bnd (E.size u) fun s=>bnd (H.row q.1) fun r=>
   ifB (zq (Nat.ble 100 q.1) (zq (Nat.beq s 1) (zq (Nat.beq r.t u) (Nat.ble (Nat.add q.2 n) r.n))))
    (bnd (Tr.Ji n r.c q.2) fun cs=>bnd (V4 cs) fun l=>some (.str l,⟨H.blk.del q.1,H.next⟩)) none
def l1 {α:Type u}{β:Type} (l:List β) (r:Option α):Option α:=lC l r fun _ _=>none
def Kd (E:Env) (H:zl) (b:Builtin) (ts:List TypeId) (args:List zb):R:=
 lC args none fun x r=>lC ts none fun t us=>
  match b with
  | .append=>lC r none fun y q=>lC us none fun u vs=>l1 q (l1 vs (zeP E H t u x y))
  | .copy=>lC r none fun y q=>l1 q (zrw E H t x y)
  | .len=>Zw H (zwI E H t x)
  | .cap=>Zw H (zwL E t x)
  | .min=>Zw H (zh (zsI r x) (lC r none fun y q=>l1 q (findF (zr8 x y) E.facts)) some)
  | .max=>Zw H (zh (zsJ r x) (lC r none fun y q=>l1 q (findF (zr9 x y) E.facts)) some)
  | .clear=>l1 r (zoo E H t x)
  | .unsafeSliceData=>l1 r (Ve H x)
  | .unsafeString=>lC r none fun y q=>lC us none fun _ vs=>l1 q (l1 vs (bnd (asInt y) fun p=>ifB (XB p.1) (Xx p.2 fun n=>ifB (Nat.ble n 1000000000) (zeQ E H t x n) none) none))
  | _=>none
def zyp (k:IntKind) (x:zb) (H:zl):R:=bnd (XM x) fun n=>some (mkInt k (yH k n),H)
def zft (E:Env) (e:TypeId):Bool:=zh (E.size e) false fun s=>Nat.beq s 1
def ziJ (E:Env) (H:zl) (e:TypeId) (s:List Nat):R:=
 bnd (E.desc e) fun d=>bnd (XG d) fun k=>ifB (zq (zei k) (zft E e)) (frc (qM s 0) fun n=>zhY H e (mapA u8 s) fun m=>.slice m 0 n n false) none
def zkc (E:Env) (H:zl) (e:TypeId) (x:zb):R:=
 bnd (E.desc e) fun d=>bnd (XG d) fun k=>ifB (zei k)
  (zh (kr x) (ifB (jT x) (some (.str [],H)) (bnd (Qf x) fun _=>bnd (Yt E H x) fun v=>some (v,H))) fun s=>zh (pkL H s) (bnd (H.kp s.b s.off s.len) fun cs=>bnd (V4 cs) fun l=>some (.str l,H)) fun l=>some (.str l,H)) none
def zds (E:Env) (H:zl) (t:TypeId) (x:zb):R:=
 bnd (JB x) fun p=>bnd (E.size t) fun s=>bnd (H.row p.1) fun r=>qP s none fun _=>ifB (Nat.blt p.2 r.n) (some (x,H)) none
def UF (E:Env) (H:zl) (u:TypeId) (x:zb):R:=
 bnd (JB x) fun p=>bnd (E.size u) fun s=>bnd (H.row p.1) fun r=>qP s none fun _=>
  ifB (zq (Nat.beq r.t u) (zq (Nat.beq (Nat.mod p.2 s) 0) (Nat.ble (Nat.add p.2 s) r.n))) (some (x,H)) none
def zyo (E:Env) (H:zl) (dd:TypeDesc) (x:zb):R:=
 bnd (jb x) fun s=>ifB (ki dd) (some (x,H)) (bnd (jQ dd) fun e=>ziJ E H e s)
def ziI (E:Env) (H:zl) (sd dd:TypeDesc) (x:zb):R:=
 zh (jQ sd)
  (zh (zix sd) (ifB (zet sd) (bnd (zix dd) fun u=>UF E H u x) none)
   fun t=>ifB (zet dd) (zds E H t x) none)
  fun e=>ifB (ki dd) (zkc E H e x) none
def zgV (E:Env) (H:zl) (src dst:TypeId) (x:zb):R:=
 bnd (E.desc dst) fun dd=>bnd (E.desc src) fun sd=>
  zh (asInt x) (ifB (ki sd) (zyo E H dd x) (ziI E H sd dd x)) fun _=>bnd (XG dd) fun k=>zyp k x H
def zjj (E:Env) (H:zl) (src dst:TypeId) (x:zb):R:=
 bnd (E.desc dst) fun dd=>bnd (E.desc src) fun sd=>zh (XG dd) (ifB (ki sd) (bnd (findF (zcb x) E.facts) fun _=>ifB (ki dd) (some (x,H)) (bnd (jQ dd) fun e=>bnd (E.desc e) fun d=>bnd (XG d) fun k=>ifB (zq (zei k) (zft E e)) (zr0 H e x) none)) none)
  fun k=>ifB (isInt sd) (bnd (findF (znm k x) E.facts) fun r=>some (r,H)) none
abbrev Kh:=List (zb×zb×Nat)
def jY (v:zb):Bool:=match v with | .bool _=>true | .int _ _=>true | .str _=>true | _=>false
def Up (v:zb):Bool:=match v with | .agg l=>Qq jY l | v=>jY v
def zjP (E:Env) (H:zl) (t:TypeId) (k x:zb):Option Bool:=
 zh (jb k) (JR E H 10000 t k x) fun a=>bnd (jb x) fun b=>some (zcd a b)
def zjI (E:Env) (H:zl) (t:TypeId) (k:zb) (es:Kh):Option (Option zb):=
 List.rec (some none) (fun e _ ih=>bnd (zjP E H t k e.1) fun r=>ifB (qf k e.1) (ifB r (some (some e.2.1)) none) (ifB r none ih)) es
def zo7 (k:zb) (v:zb) (es:Kh):Kh:=List.rec [] (fun e l ih=>ifB (qf k e.1) ((e.1,v,e.2.2)::l) (e::ih)) es
def zl.zsx (H:zl) (x:zb):Option Kh:=ifB (VO x) (some []) (bnd (zgK x) fun r=>bnd (H.blk.get r) fun b=>bnd (zeD b) fun m=>some m.1)
def Xw (ok:Bool) (v:zb) (is:Bool):zb:=ifB ok (.tuple [v,.bool is]) v
def Yx (E:Env) (t:TypeId):Bool:=zh (E.desc t) false fun d=>ifB (ki d) true (zh (XG d) false fun _=>true)
def J6 (E:Env) (l:List zb) (fs:List Field):Bool:=
 List.rec true (fun f _ ih=>zq (zq (Yx E f.type) (zh (E.apart f.type l f.offset) false jY)) ih) fs
def VL (E:Env) (e:TypeId) (s:Nat) (l:List zb) (is:List Nat):Bool:=
 List.rec true (fun i _ ih=>zq (zh (E.apart e l (Nat.mul i s)) false jY) ih) is
def zh5 (E:Env) (l:List zb) (q:Nat×TypeId):Bool:=zq (Yx E q.2) (zh (E.size q.2) false fun s=>VL E q.2 s l (List.range q.1))
def X2 (E:Env) (d:TypeDesc) (k:zb):Bool:=
 match k with
 | .str _=>ki d
 | .int _ _=>zh (XG d) false fun _=>true
 | .agg l=>zq (Qq jY l) (zh (Zk d) (zh (ZO d) false fun q=>zh5 E l q) fun fs=>J6 E l fs)
 | _=>false
def zkl (E:Env) (H:zl) (t:TypeId) (x k:zb) (ok:Bool):Option zb:=
 bnd (E.desc t) fun d=>bnd (zlr d) fun q=>bnd (E.desc q.1) fun kd=>ifB (X2 E kd k)
  (bnd (H.zsx x) fun es=>bnd (zjI E H q.1 k es) fun f=>zh f (bnd (E.zero q.2) fun z=>some (Xw ok z false)) fun v=>some (Xw ok v true)) none
def zm6 (H:zl) (r:Nat) (k:zb) (v:zb) (es:Kh) (c:Nat) (f:Option zb):zl:=
 zh f ⟨H.blk.set r (.map (zQ es [(k,v,c)]) (Nat.succ c)),H.next⟩ fun _=>⟨H.blk.set r (.map (zo7 k v es) c),H.next⟩
def zbR (E:Env) (H:zl) (t:TypeId) (m k v:zb):Option zl:=
 bnd (E.desc t) fun d=>bnd (zlr d) fun q=>bnd (E.desc q.1) fun kd=>ifB (X2 E kd k)
  (bnd (zgK m) fun r=>bnd (H.blk.get r) fun b=>bnd (zeD b) fun p=>ifB (Nat.ble 100 r) (bnd (zjI E H q.1 k p.1) fun f=>some (zm6 H r k v p.1 p.2 f)) none) none
def yr {α:Type} (N d id:Nat) (f:Nat→α):α:=ifB (Nat.blt id N) (f id) (frc (Nat.add d (Nat.sub id N)) f)
def shV (N d:Nat) (v:zb):zb:=
 @zb.rec (fun _=>zb) (fun _=>List zb)
  (fun b=>.bool b) (fun k n=>.int k n) (fun s=>.str s) .nilp (fun b o=>yr N d b fun m=>.ptr m o) .nilslice (fun b o l c x=>yr N d b fun m=>.slice m o l c x) .nilmap (fun r=>yr N d r fun m=>.map m)
  (fun f _ _ l m=>.fn f l m) (fun l=>yr N d l fun m=>.yieldf m) (fun b c=>yr N d b fun m=>.capv m c) .nilfn (fun t _ v=>.iface t v) .niliface (fun _ l=>.agg l) (fun _ l=>.tuple l) (fun i=>yr N d i fun m=>.sym m) (fun b o q=>yr N d b fun m=>.esl m o q) (fun b _ v=>yr N d b fun m=>.osl m v) (fun b o q c x=>yr N d b fun m=>yr N d q fun p=>.psl m o p c x)
  [] (fun _ _ a l=>a::l) v
def J1 {α β:Type} (f:α→β) (t:Tr α):Tr β:=Tr.rec .nil (fun _ v _ l r=>.node l (bnd v fun a=>some (f a)) r) t
def shB (N d:Nat) (b:zo):zo:=
 zo.rec (fun t n c=>.cells t n (J1 (shV N d) c)) (fun es c=>.map (mapA (fun e=>(e.1,shV N d e.2.1,e.2.2)) es) c) (fun a b c e f g h i=>.loop a b c e f g h i) (fun s p=>.siter s p) (fun t v=>.text t (shV N d v)) (fun t n N=>.pack t n N) (fun t v=>.ints t (shV N d v)) (fun c=>.view (J1 (shV N d) c)) b
def QA (N d:Nat) (rows:List (Nat×zo)):Tr zo→Tr zo:=
 List.rec (motive:=fun _=>Tr zo→Tr zo) (fun t=>t) (fun p _ ih t=>yr N d p.1 fun m=>ih (t.set m (shB N d p.2))) rows
def zfZ (g:FuncId) (as:List zb) (f:Fact):Option (Nat×Nat×List (Nat×zo)×zb):=
 match f with | .make h bs N n rows r=>ifB (zq (Nat.beq g h) (j9 as bs)) (some (N,n,rows,r)) none | .makeF p=>p g as | _=>none
def zlN (H:zl) (N n:Nat) (rows:List (Nat×zo)) (r:zb):R:=
 ifB (Nat.ble N H.next) (frc H.next fun d=>frc (Nat.add d n) fun m=>some (shV N d r,⟨QA N d rows H.blk,m⟩)) none
def zam (args:List zb) (H:zl):R:=
 lC args none fun a q=>l1 q (bnd (zeF a) fun p=>bnd (zgK p.2) fun r=>bnd (H.blk.get r) fun b=>bnd (zeD b) fun m=>
  frc H.next fun n=>some (.iface p.1 (.map n),⟨H.blk.set n (.map m.1 m.2),Nat.succ n⟩))
def zbA (c:Nat) (s:List Nat):Nat:=List.rec 0 (fun b _ ih=>ifB (Nat.beq b c) (Nat.succ ih) ih) s
def zlO (args:List zb) (H:zl):R:=
 lC args none fun a r=>lC r none fun b q=>l1 q (bnd (jb a) fun s=>bnd (Wa b) fun c=>some (mkInt .i64 (.ofNat (zbA c s)),H))
def VX (c:Nat) (s:List Nat):Nat→Int:=
 List.rec (motive:=fun _=>Nat→Int) (fun _=>.negSucc 0) (fun b _ ih i=>ifB (Nat.beq b c) (.ofNat i) (ih (Nat.succ i))) s
def zao (args:List zb) (H:zl):R:=
 lC args none fun a r=>lC r none fun b q=>l1 q (bnd (jb a) fun s=>bnd (Wa b) fun c=>some (mkInt .i64 (VX c s 0),H))
def zlu (l:List Nat):List Nat→Int:=
 List.rec (motive:=fun _=>List Nat→Int) (fun m=>lC m (.ofNat 0) fun _ _=>.negSucc 0)
  (fun a _ ih m=>lC m (.ofNat 1) fun b m=>ifB (Nat.blt a b) (.negSucc 0) (ifB (Nat.beq a b) (ih m) (.ofNat 1))) l
def ze4 (args:List zb) (H:zl):R:=
 lC args none fun a r=>lC r none fun b q=>l1 q (bnd (jb a) fun s=>bnd (jb b) fun t=>some (mkInt .i64 (zlu s t),H))
def K9 (e:TypeId) (args:List zb) (H:zl):R:=
 lC args none fun a q=>l1 q (bnd (asInt a) fun p=>ifB (XB p.1) (Xx p.2 fun n=>ifB (Nat.ble n 1000000000)
  (frc H.next fun m=>frc n fun n=>some (.slice m 0 n n false,⟨H.blk.set m (.cells e n .nil),Nat.succ m⟩)) none) none)
def zsO (args:List zb) (H:zl):R:=lC args none fun a q=>l1 q (some (a,H))
end
end Go.AEv
namespace Go.AEv
universe u
noncomputable section
inductive qZ where
 | fail
 | nrm (T:Tr zb) (H:zl)
 | ex (id:Nat) (T:Tr zb) (H:zl)
 | ret (T:Tr zb) (H:zl)
structure Fr where
 n:Nat
 fn:FuncId
 ro:Option Nat
abbrev Rec:=Fr→Code→Tr zb→zl→qZ
abbrev OpF:=Env→Rec→Tr zb→zl→R
def Jx:OpF:=fun _ _ _ _=>none
def zrj (x:Operand):OpF:=fun _ _ T H=>Zw H (ev T x)
def zva (c a b:Operand):OpF:=fun _ _ T H=>bnd (ev T c) fun v=>bnd (asBool v) fun q=>ifB q (Zw H (ev T a)) (Zw H (ev T b))
def zsq (t:TypeId):OpF:=fun E _ _ H=>bnd (E.zero t) fun z=>zhY H t (zP z) fun m=>.ptr m 0
def zxV (t:TypeId) (x:Operand):OpF:=fun _ _ T H=>bnd (ev T x) fun v=>ifB (Qq yw (zP v)) (zhY H t (zP v) fun m=>.ptr m 0) none
def YL (E:Env) (fs:List Field) (i:Nat):Option (Nat×Nat):=bnd (kg i fs) fun f=>bnd (E.size f.type) fun s=>some (f.offset,s)
def W0 (s:Nat) (i:Nat):Option (Nat×Nat):=some (Nat.mul i s,s)
def zdg (place:Nat→Option (Nat×Nat)) (total:Nat) (ps:List (Nat×zb)):List zb→Option (List zb):=
 List.rec (motive:=fun _=>List zb→Option (List zb)) some
  (fun p _ ih cs=>bnd (place p.1) fun q=>ifB (zq (Nat.beq (qM (zP p.2) 0) q.2) (Nat.ble (Nat.add q.1 q.2) total)) (ih (Jp q.1 (zP p.2) cs)) none) ps
def Kb (E:Env) (fs:List Field):Bool:=List.rec true (fun f _ ih=>zh (E.size f.type) false fun _=>ih) fs
def ziL (E:Env) (d:TypeDesc) (z:List zb) (ps:List (Nat×zb)):Option (List zb):=
 zh (Zk d) (bnd (ZO d) fun q=>bnd (E.size q.2) fun s=>zdg (W0 s) (qM z 0) ps z) fun fs=>ifB (Kb E fs) (zdg (YL E fs) (qM z 0) ps z) none
def zso (t:TypeId) (parts:Array (Nat×Operand)):OpF:=fun E _ T H=>
 bnd (E.zero t) fun z=>bnd (zer T parts.toList) fun ps=>bnd (E.desc t) fun d=>bnd (ziL E d (zP z) ps) fun l=>some (.agg l,H)
def zgn (t:TypeId) (len:Nat) (parts:Array (Nat×Operand)):OpF:=fun E _ T H=>
 bnd (E.desc t) fun d=>bnd (jQ d) fun e=>bnd (zer T parts.toList) fun ps=>bnd (E.size e) fun s=>bnd (E.zero e) fun z=>
  ifB (zq (Nat.ble (Nat.mul len s) 16777216) (Nat.beq (qM (zP z) 0) s))
   (bnd (zdg (W0 s) (Nat.mul len s) ps (Qy (zP z) len)) fun l=>ifB (Qq yw l) (zhY H e l fun m=>.slice m 0 len len true) none) none
def zvc (t:TypeId) (a:Operand):OpF:=fun E _ T H=>bnd (ev T a) fun v=>bnd (JB v) fun p=>Zw H (E.loadVar H t p.1 p.2)
def zsj (t:TypeId) (a x:Operand):OpF:=fun E _ T H=>
 bnd (ev T a) fun v=>bnd (JB v) fun p=>bnd (ev T x) fun y=>bnd (E.storeVar H t p.1 p.2 y) fun H'=>some (qW,H')
def zlf (x:Operand):OpF:=fun _ _ T H=>bnd (ev T x) fun v=>ifB (isNil v) none (some (v,H))
def zsp (op:BinOp) (t:TypeId) (x y:Operand) (_:TypeId):OpF:=fun E _ T H=>
 bnd (ev T x) fun a=>bnd (ev T y) fun b=>Zw H (zsL E H op t x y a b)
def unNeg (k:IntKind) (n:Int):zb:=mkInt k (yH k (zsg n))
def unXor (k:IntKind) (n:Int):zb:=mkInt k (back k (Nat.xor (Zz k n) (Nat.sub (full k) 1)))
def ziR (op:UnOp) (x:zb):Option zb:=
 match op with
 | .neg=>bnd (asInt x) fun p=>some (unNeg p.1 p.2)
 | .xor=>bnd (asInt x) fun p=>some (unXor p.1 p.2)
 | .not=>bnd (asBool x) fun b=>some (ifB b (.bool false) (.bool true))
 | .plus=>none
def zu9 (op:UnOp) (_:TypeId) (x:Operand):OpF:=fun E _ T H=>bnd (ev T x) fun v=>Zw H (ifB (Ju v) (findF (mUn op v) E.facts) (ziR op v))
def znK (s d:TypeId) (x:Operand):OpF:=fun E _ T H=>bnd (ev T x) fun v=>ifB (Ju v) (zjj E H s d v) (zgV E H s d v)
def zbm (t:TypeId) (x:Operand):OpF:=fun E _ T H=>bnd (E.desc t) fun d=>ifB (zn3 d) none (bnd (ev T x) fun v=>some (.iface t v,H))
def zsr (f:Fn):Option FuncId:=match f with | .func f=>some f | _=>none
def zlg (f:Fn) (first captured:Array Operand):OpF:=fun _ _ T H=>
 bnd (zsr f) fun f=>bnd (evs T first.toList) fun l=>bnd (evs T captured.toList) fun m=>some (.fn f l m,H)
def znI (t:TypeId) (r:Option Operand):OpF:=fun E _ T H=>
 bnd (zh r (some true) fun o=>bnd (ev T o) fun v=>bnd (asInt v) fun _=>bnd (E.desc t) fun d=>bnd (zlr d) fun _=>some true) fun _=>
  frc H.next fun n=>some (.map n,⟨H.blk.set n (.map [] 0),Nat.succ n⟩)
def mkSlice (E:Env) (H:zl) (e:TypeId) (l c:Nat):R:=
 bnd (E.types.get e) fun i=>bnd (E.zero e) fun z=>
  ifB (zq (Nat.ble (Nat.mul c i.bytes) 1000000000) (zq (Nat.ble l c) (zq (Nat.beq (qM (zP z) 0) i.size) (Nat.ble c 1000000000))))
   (frc l fun l=>frc c fun c=>zhY H e (Qy (zP z) c) fun m=>.slice m 0 l c true) none
def zu8 {α:Type u} (v:zb) (f:Nat→Option α):Option α:=bnd (asInt v) fun p=>ifB (XB p.1) (Xx p.2 f) none
def zif (t:TypeId) (l c:Operand):OpF:=fun E _ T H=>
 bnd (E.desc t) fun d=>bnd (jQ d) fun e=>bnd (ev T l) fun a=>bnd (ev T c) fun b=>zu8 a fun l=>zu8 b fun c=>mkSlice E H e l c
def zsk (t:TypeId) (x:Operand) (lo hi mx:Option Operand):OpF:=fun E _ T H=>
 bnd (ev T x) fun v=>bnd (evO T lo) fun l=>bnd (evO T hi) fun h=>bnd (evO T mx) fun m=>Zw H (zoe E t v l h m)
def zj3 (E:Env) (b off:Nat) (f:Field):Option zb:=bnd (E.size f.type) fun s=>qP s none fun _=>frc (Nat.add off f.offset) fun o=>some (.ptr b o)
def zii (s:TypeId) (x:Operand) (f:Nat):OpF:=fun E _ T H=>
 bnd (E.desc s) fun d=>bnd (Zk d) fun fs=>bnd (kg f fs) fun fl=>bnd (ev T x) fun v=>bnd (JB v) fun p=>Zw H (zj3 E p.1 p.2 fl)
def zsn (t:TypeId) (x:Operand) (f:Nat):OpF:=fun E _ T H=>
 bnd (E.desc t) fun d=>bnd (Zk d) fun fs=>bnd (kg f fs) fun fl=>bnd (ev T x) fun v=>bnd (asAgg v) fun cs=>Zw H (E.apart fl.type cs fl.offset)
def zbw (b off i s:Nat):Option zb:=frc (Nat.add off (Nat.mul i s)) fun o=>some (.ptr b o)
def znD (E:Env) (q:Nat×TypeId) (v:zb) (i:Int):Option zb:=
 bnd (JB v) fun p=>bnd (E.size q.2) fun s=>inB i q.1 fun i=>zbw p.1 p.2 i s
def zpm (E:Env) (e:TypeId) (v:zb) (i:Int):Option zb:=
 bnd (E.size e) fun s=>zh (kr v) (bnd (zdx v) fun p=>Xx i fun n=>bnd (findF (znh p.q) E.facts) fun m=>ifB (Nat.blt n m.1) (zbw p.b p.o n s) none) fun q=>inB i q.len fun i=>zbw q.b q.off i s
def zbS (E:Env) (t:TypeId) (v ix:zb):Option zb:=
 bnd (XM ix) fun i=>bnd (E.desc t) fun d=>zh (jQ d) (bnd (ZO d) fun q=>znD E q v i) fun e=>zpm E e v i
def zih (t:TypeId) (x ix:Operand):OpF:=fun E _ T H=>bnd (ev T x) fun v=>bnd (ev T ix) fun i=>Zw H (zbS E t v i)
def zsY (s:List Nat) (i:Int):Option zb:=Xx i fun n=>bnd (kg n s) fun b=>some (u8 b)
def znE (E:Env) (q:Nat×TypeId) (v:zb) (i:Int):Option zb:=
 bnd (asAgg v) fun cs=>bnd (E.size q.2) fun s=>inB i q.1 fun i=>E.apart q.2 cs (Nat.mul i s)
def zom (E:Env) (t:TypeId) (v ix:zb):Option zb:=
 bnd (XM ix) fun i=>zh (jb v) (bnd (E.desc t) fun d=>bnd (ZO d) fun q=>znE E q v i) fun s=>bnd (E.desc t) fun d=>ifB (ki d) (zsY s i) none
def zfh (E:Env) (t:TypeId) (v ix:zb):Option zb:=bnd (XM ix) fun i=>bnd (E.desc t) fun d=>ifB (ki d) (Xx i fun n=>findF (mAt v n) E.facts) none
def zsm (t:TypeId) (x ix:Operand):OpF:=fun E _ T H=>bnd (ev T x) fun v=>bnd (ev T ix) fun i=>Zw H (ifB (Ju v) (zfh E t v i) (zom E t v i))
def zpr (t:TypeId) (x k:Operand) (ok:Bool):OpF:=fun E _ T H=>bnd (ev T x) fun v=>bnd (ev T k) fun k=>Zw H (zkl E H t v k ok)
def zbl (t:TypeId) (m k v:Operand):OpF:=fun E _ T H=>
 bnd (ev T m) fun m=>bnd (ev T k) fun k=>bnd (ev T v) fun v=>bnd (zbR E H t m k v) fun H'=>some (qW,H')
def zsl (t:TypeId) (x:Operand):OpF:=fun E _ T H=>
 bnd (E.desc t) fun d=>ifB (ki d) (bnd (ev T x) fun v=>bnd (jb v) fun s=>frc H.next fun n=>some (.ptr n 0,⟨H.blk.set n (.siter s 0),Nat.succ n⟩)) none
def zbi (H:zl) (b:Nat) (s:List Nat) (p:Nat):R:=
 zh (kg p s) (some (.tuple [.bool false],H)) fun c=>ifB (Nat.blt c 128)
  (frc (Nat.succ p) fun n=>some (.tuple [.bool true,.int .i64 (.ofNat p),.int .i32 (.ofNat c)],⟨H.blk.set b (.siter s n),H.next⟩)) none
def zvb (it:Operand) (str:Bool):OpF:=fun _ _ T H=>
 ifB str (bnd (ev T it) fun v=>bnd (JB v) fun p=>qP p.2 (bnd (H.blk.get p.1) fun b=>bnd (zsG b) fun q=>ifB (Nat.ble 100 p.1) (zbi H p.1 q.1 q.2) none) fun _=>none) none
def zgm (x:Operand) (_ ty:TypeId) (ok:Bool):OpF:=fun E _ T H=>
 bnd (E.desc ty) fun d=>ifB (zn3 d) none (bnd (ev T x) fun v=>bnd (zeF v) fun p=>ifB (Nat.beq p.1 ty) (some (Xw ok p.2 true,H)) none)
def znJ (t:Operand) (ix:Nat):OpF:=fun _ _ T H=>bnd (ev T t) fun v=>bnd (asTuple v) fun l=>Zw H (kg ix l)
def zrN (t:Nat):Env→Tr zb→zl→Option zb:=fun _ T _=>zj4 t T
def zoP (a:Nat) (t:TypeId):Env→Tr zb→zl→Option zb:=fun E T H=>bnd (T.get a) fun v=>bnd (JB v) fun p=>E.loadVar H t p.1 p.2
def zkh (r:ResultVar):Env→Tr zb→zl→Option zb:=@ResultVar.rec (fun _=>Env→Tr zb→zl→Option zb) zrN zoP r
def zgN (E:Env) (T:Tr zb) (H:zl) (l:List ResultVar):Option (List zb):=
 List.rec (some []) (fun r _ ih=>bnd (zkh r E T H) fun a=>bnd ih fun m=>some (a::m)) l
def one (l:List zb):zb:=lC l (.tuple []) fun a m=>lC m a fun _ _=>.tuple l
def leave (E:Env) (fn:Func) (T:Tr zb) (H:zl):R:=bnd (zgN E T H fn.results.toList) fun l=>some (one l,H)
def zfY (a b:Nat):Nat:=ifB (Nat.ble a b) b a
def leaves (E:Env) (fn:Func) (r:qZ):R:=@qZ.rec (fun _=>R) none (fun T H=>leave E fn T H) (fun _ _ _=>none) (fun T H=>leave E fn T H) r
def z8 (E:Env) (rec:Rec) (f:FuncId) (args:List zb) (H:zl):R:=
 bnd (E.funcs.get f) fun fn=>bnd fn.body fun c=>leaves E fn (rec ⟨zfY fn.ntmps (qM args 0),f,none⟩ c (Tr.ofList args) H)
def zaR (sz:Nat) (t:TypeId) (r:R):Option (Nat×List zb):=
 bnd r fun r=>bnd (kr r.1) fun s=>bnd (r.2.row s.b) fun w=>
  ifB (zq (Nat.ble 100 s.b) (zq (Nat.beq s.off 0) (zq (Nat.beq w.t t) (zq (ifB s.ex (Nat.ble (Nat.mul s.cap sz) w.n) (Nat.beq (Nat.mul s.cap sz) w.n)) (Nat.ble s.len s.cap)))))
   (bnd (Tr.Ji (Nat.mul s.len sz) w.c 0) fun l=>some (s.len,l)) none
def zd9 (m:Nat) (v:zb):Bool:=
 match v with
 | .bool _=>true
 | .int _ _=>true
 | .str _=>true
 | .nilp=>true
 | .nilslice=>true
 | .nilmap=>true
 | .nilfn=>true
 | .niliface=>true
 | .ptr b _=>Nat.blt b m
 | .slice b _ _ _ ex=>zq ex (Nat.blt b m)
 | .map b=>Nat.blt b m
 | .sym b=>Nat.blt b m
 | _=>false
abbrev zry:=List zb→zl→R
def znC (H:zl) (s:Sl) (bv:Nat) (t:TypeId) (sz:Nat) (x y:Option (Nat×List zb)):R:=
 bnd x fun p=>bnd y fun q=>ifB (zq (Nat.beq p.1 q.1) (zq (j9 p.2 q.2) (Qq (zd9 H.next) p.2)))
  (some (.slice H.next 0 p.1 p.1 false,⟨((H.blk.del s.b).del bv).set H.next (.cells t (Nat.mul p.1 sz) (Tr.ofList p.2)),Nat.succ H.next⟩)) none
def zsf (E:Env) (run:zry) (s:Sl) (i:zb) (v:Sl) (H:zl):R:=
 bnd (H.zqq s.b) fun r=>bnd (H.zqq v.b) fun w=>bnd (E.size r.t) fun sz=>
  ifB (zq (zq (Nat.ble 100 s.b) (Nat.ble 100 v.b)) (zq (j8 (Nat.beq s.b v.b)) (zq (Nat.beq v.len 1) (Nat.beq (Nat.add s.off (Nat.mul s.cap sz)) r.n))))
   (znC H s v.b r.t sz
    (zaR sz r.t (run [.slice s.b s.off s.len s.cap true,i,.slice v.b v.off v.len v.cap v.ex]
     ⟨Tr.set (Tr.set (jd E.tabs) s.b (.cells r.t r.n r.c)) v.b (.cells w.t w.n w.c),H.next⟩))
    (zaR sz r.t (run [.slice H.next s.off s.len (Nat.succ s.cap) false,i,.slice v.b v.off v.len v.cap v.ex]
     ⟨Tr.set (Tr.set (jd E.tabs) H.next (.cells r.t (Nat.add r.n sz) r.c)) v.b (.cells w.t w.n w.c),Nat.succ H.next⟩))) none
def zeK (E:Env) (run:zry) (args:List zb) (H:zl):R:=
 lC args none fun a l=>lC l none fun i m=>lC m none fun v q=>l1 q
  (zh (kr a) (run args H) fun s=>ifB s.ex (run args H) (bnd (kr v) fun w=>frc H.next fun n=>zsf E run s i w ⟨H.blk,n⟩))
def oeq (a b:Option zb):Bool:=zh a (zh b true fun _=>false) fun x=>zh b false fun y=>qf x y
def zky (t:Tr zb):Tr zb→Bool:=
 Tr.rec (motive:=fun _=>Tr zb→Bool) (fun s=>Tr.rec (motive:=fun _=>Bool) true (fun _ _ _ _ _=>false) s)
  (fun _ v _ ihl ihr s=>Tr.rec (motive:=fun _=>Bool) false (fun l v' r _ _=>zq (oeq v v') (zq (ihl l) (ihr r))) s) t
def ziu (es:Kh):Kh→Bool:=
 List.rec (motive:=fun _=>Kh→Bool) (fun m=>lC m true fun _ _=>false)
  (fun e _ ih m=>lC m false fun d m=>zq (zq (qf e.1 d.1) (zq (qf e.2.1 d.2.1) (Nat.beq e.2.2 d.2.2))) (ih m)) es
def yp (a b:zo):Bool:=
 match a,b with
 | .cells t n c,.cells t' n' c'=>zq (Nat.beq t t') (zq (Nat.beq n n') (zky c c'))
 | .pack t n N,.pack t' n' N'=>zq (Nat.beq t t') (zq (Nat.beq n n') (Nat.beq N N'))
 | .map es k,.map es' k'=>zq (ziu es es') (Nat.beq k k')
 | .text t v,.text t' v'=>zq (Nat.beq t t') (qf v v')
 | .ints t v,.ints t' v'=>zq (Nat.beq t t') (qf v v')
 | .view c,.view c'=>zky c c'
 | _,_=>false
def qg (l:List (Nat×zo)) (t:Tr zo):Tr zo:=List.rec t (fun p _ ih=>ih.set p.1 p.2) l
def YQ (l:List (Nat×zo)) (t:Tr zo):Tr zo:=List.rec t (fun p _ ih=>ih.del p.1) l
def U8 (t:Tr zo) (l:List (Nat×zo)):Bool:=List.rec true (fun p _ ih=>zq (zh (t.get p.1) false fun b=>yp b p.2) ih) l
def kS (H:zl) (rin rout:List (Nat×zo)) (n:Nat):zl:=⟨qg rout (YQ rin H.blk),n⟩
def zsh (v:zb):Option Nat:=match v with | .ptr b _=>some b | .slice b _ _ _ _=>some b | .map r=>some r | .osl b _=>some b | .psl b _ _ _ _=>some b | _=>none
def zwF (as:List zb) (ai fi:Nat):Option Nat:=bnd (kg ai as) fun a=>qP fi (zsh a) fun k=>bnd (asAgg a) fun l=>bnd (kg k l) zsh
def zsA (H:zl) (b ci:Nat):Option Nat:=qP ci (some b) fun k=>bnd (H.row b) fun r=>bnd (Tr.get r.c k) zsh
def ztg (as:List zb) (H:zl) (g:Seg):Option (Nat×Nat×Nat):=
 bnd (zwF as g.ai g.fi) fun b=>bnd (zsA H b g.ci) fun a=>ifB (Nat.ble g.cid (Nat.add a g.lo)) (frc (Nat.sub (Nat.add a g.lo) g.cid) fun n=>some (g.lo,g.hi,n)) none
def zmf (as:List zb) (H:zl) (l:List Seg):Option (List (Nat×Nat×Nat)):=List.rec (some []) (fun g _ ih=>bnd (ztg as H g) fun x=>bnd ih fun m=>some (x::m)) l
def ren (nx next:Nat) (l:List (Nat×Nat×Nat)) (id:Nat):Nat:=
 ifB (Nat.ble nx id) (Nat.add next (Nat.sub id nx)) (List.rec id (fun x _ ih=>ifB (zq (Nat.ble x.1 id) (Nat.blt id x.2.1)) (Nat.add x.2.2 (Nat.sub id x.1)) ih) l)
def Ko (N nx next:Nat) (l:List (Nat×Nat×Nat)):Bool:=
 List.rec true (fun x _ ih=>zq (zq (Nat.ble N x.1) (zq (Nat.ble x.1 x.2.1) (zq (Nat.ble x.2.1 nx) (Nat.ble (Nat.add x.2.2 (Nat.sub x.2.1 x.1)) next)))) ih) l
def za8 (n:Nat) (l:List Nat):Bool:=List.rec false (fun a _ ih=>ifB (Nat.beq n a) true ih) l
def QD (l:List Nat):Bool:=List.rec true (fun a m ih=>ifB (za8 a m) false ih) l
def zmp (N nx:Nat) (ρ:Nat→Nat) (l:List (Nat×zo)):Bool:=List.rec true (fun p _ ih=>zq (zq (Nat.ble N p.1) (zq (Nat.blt p.1 nx) (zq (Nat.ble 100 (ρ p.1)) (zh (kC p.2) true fun _=>false)))) ih) l
def JJ (ρ:Nat→Nat) (l:List (Nat×zo)):List Nat:=List.rec [] (fun p _ ih=>frc (ρ p.1) fun m=>m::ih) l
def jA (ρ:Nat→Nat) (v:zb):zb:=
 @zb.rec (fun _=>zb) (fun _=>List zb)
  (fun b=>.bool b) (fun k n=>.int k n) (fun s=>.str s) .nilp (fun b o=>frc (ρ b) fun m=>.ptr m o) .nilslice (fun b o l c x=>frc (ρ b) fun m=>.slice m o l c x) .nilmap (fun r=>frc (ρ r) fun m=>.map m)
  (fun f _ _ l m=>.fn f l m) (fun l=>frc (ρ l) fun m=>.yieldf m) (fun b c=>frc (ρ b) fun m=>.capv m c) .nilfn (fun t _ v=>.iface t v) .niliface (fun _ l=>.agg l) (fun _ l=>.tuple l) (fun i=>frc (ρ i) fun m=>.sym m) (fun b o q=>frc (ρ b) fun m=>.esl m o q)
  (fun b _ v=>frc (ρ b) fun m=>.osl m v) (fun b o q c x=>frc (ρ b) fun m=>frc (ρ q) fun p=>.psl m o p c x)
  [] (fun _ _ a l=>a::l) v
def Xo (ρ:Nat→Nat) (l:List zb):List zb:=List.rec [] (fun a _ ih=>jA ρ a::ih) l
def zfA (ρ:Nat→Nat) (b:zo):zo:=
 zo.rec (fun t n c=>.cells t n (J1 (jA ρ) c)) (fun es c=>.map (mapA (fun e=>(e.1,jA ρ e.2.1,e.2.2)) es) c) (fun a b c e f g h i=>.loop a b c e f g h i) (fun s p=>.siter s p) (fun t v=>.text t (jA ρ v)) (fun t n N=>.pack t n N) (fun t v=>.ints t (jA ρ v)) (fun c=>.view (J1 (jA ρ) c)) b
def zhV (v:zb):Bool:=
 match v with
 | .ptr ..=>false | .slice ..=>false | .map ..=>false | .yieldf ..=>false | .capv ..=>false | .sym ..=>false | .esl ..=>false | .osl ..=>false | .psl ..=>false | .fn ..=>false | .iface ..=>false | .agg ..=>false | .tuple ..=>false | _=>true
def zfQ (t:Tr zb):Bool:=Tr.rec true (fun _ v _ il ir=>ifB (zh v true zhV) (ifB il ir false) false) t
def zmT (es:Kh):Bool:=List.rec true (fun e _ ih=>ifB (zhV e.2.1) ih false) es
def zuD (b:zo):Bool:=
 zo.rec (fun _ _ c=>zfQ c) (fun es _=>zmT es) (fun _ _ _ _ _ _ _ _=>true) (fun _ _=>true) (fun _ v=>zhV v) (fun _ _ _=>true) (fun _ v=>zhV v) (fun c=>zfQ c) b
def zmo (ρ:Nat→Nat) (b:zo):zo:=ifB (zuD b) b (zfA ρ b)
def zen (ρ:Nat→Nat) (t:Tr zo) (l:List (Nat×zo)):Bool:=List.rec true (fun p _ ih=>zq (frc (ρ p.1) fun m=>zh (t.get m) false fun b=>yp b (zmo ρ p.2)) ih) l
def JN (ρ:Nat→Nat) (l:List (Nat×zo)) (t:Tr zo):Tr zo:=List.rec t (fun p _ ih=>frc (ρ p.1) fun m=>ih.del m) l
def Xs (ρ:Nat→Nat) (l:List (Nat×zo)) (t:Tr zo):Tr zo:=List.rec t (fun p _ ih=>frc (ρ p.1) fun m=>ih.set m (zmo ρ p.2)) l
def U0 (ρ:Nat→Nat) (H:zl) (rin rout:List (Nat×zo)) (n:Nat):zl:=⟨Xs ρ rout (JN ρ rin H.blk),n⟩
def znN (as bs:List zb) (H:zl) (N nx:Nat) (rin rout:List (Nat×zo)) (r:zb) (n:Nat) (l:List (Nat×Nat×Nat)) (ρ:Nat→Nat):Option (zb×zl):=
 ifB (zq (Ko N nx H.next l) (zq (j9 as (Xo ρ bs)) (zq (zmp N nx ρ rin) (zq (QD (JJ ρ rin)) (zen ρ H.blk rin)))))
  (frc (Nat.add H.next (Nat.sub n nx)) fun m=>some (jA ρ r,U0 ρ H rin rout m)) none
def zed (g:FuncId) (as:List zb) (H:zl) (f:Fact):Option (zb×zl):=
 match f with
 | .memoG h N segs bs nx rin rout r n=>ifB (Nat.beq g h) (bnd (zmf as H segs) fun l=>ifB (zq (Nat.ble nx H.next) (zq (Nat.ble 100 N) (Nat.ble N nx))) (znN as bs H N nx rin rout r n l (ren nx H.next l)) none) none
 | _=>none
def zjL (g:FuncId) (as:List zb) (H:zl) (f:Fact):Option (zb×zl):=
 match f with
 | .memo h bs nx rin rout r n=>ifB (zq (Nat.beq g h) (zq (j9 as bs) (zq (Nat.beq H.next nx) (U8 H.blk rin)))) (some (r,kS H rin rout n)) none
 | _=>none
def zai (E:Env) (H:zl) (a p:zb):Bool:=
 zh (Qf p) (qf a p) fun q=>ifB (zh (Qf a) (zh (kr a) false fun _=>true) fun _=>true) (zh (Yt E H a) false fun v=>qf v q.2) false
def zah (E:Env) (H:zl) (l:List zb):List zb→Bool:=
 List.rec (motive:=fun _=>List zb→Bool) (fun m=>lC m true fun _ _=>false) (fun a _ ih m=>lC m false fun b m=>zq (zai E H a b) (ih m)) l
def zjJ (E:Env) (g:FuncId) (as:List zb) (H:zl) (f:Fact):Option zb:=match f with | .read h bs r=>ifB (zq (Nat.beq g h) (zah E H as bs)) (some r) none | _=>none
def zsK (E:Env) (rec:Rec) (f:FuncId) (args:List zb) (H:zl) (s:Spec):R:=
 match s with
 | .mapsClone=>zam args H
 | .indexByte=>zao args H
 | .makeNoZero e=>K9 e args H
 | .same=>zsO args H
 | .insert=>zeK E (z8 E rec f) args H
 | .compare=>ze4 args H
 | .count=>zlO args H
 | .fact=>bnd (E.funcs.get f) fun fn=>bnd fn.body fun _=>
  zh (findF (zf1 f args) E.facts) (zh (findF (zfZ f args) E.facts) (zh (findF (zjL f args H) E.facts) (zh (findF (zed f args H) E.facts) (zh (findF (zjJ E f args H) E.facts) (z8 E rec f args H) fun r=>some (r,H)) fun q=>some q) fun q=>some q) fun q=>zlN H q.1 q.2.1 q.2.2.1 q.2.2.2) fun r=>some (r,H)
def zkm (E:Env) (rec:Rec) (f:FuncId) (args:List zb) (H:zl):R:=
 zh (E.spec.get f) (z8 E rec f args H) fun s=>zsK E rec f args H s
def Kn (ps:List Tmp):List zb→Tr zb→Tr zb:=
 List.rec (motive:=fun _=>List zb→Tr zb→Tr zb) (fun _ T=>T) (fun p _ ih l T=>lC l T fun a m=>ih m (T.set p a)) ps
def zl.lp (H:zl) (l:Nat):Option Lp:=ifB (Nat.ble 100 l) (bnd (H.blk.get l) kC) none
def zl.Jn (H:zl) (l:Nat) (q:Lp) (st:LoopState) (pend:Option Code):zl:=
 ⟨H.blk.set l (.loop st pend q.fn q.n q.T q.ps q.assign q.body),H.next⟩
def isReady (s:LoopState):Bool:=match s with | .ready=>true | _=>false
def zse (s:LoopState):Bool:=match s with | .busy=>true | _=>false
def zml (l:Nat) (r:qZ):R:=
 @qZ.rec (fun _=>R) none
  (fun _ H=>bnd (H.lp l) fun q=>some (.bool true,H.Jn l q .ready none))
  (fun id _ H=>bnd (H.lp l) fun q=>some (.bool false,H.Jn l q .done (some (.exit id))))
  (fun _ H=>bnd (H.lp l) fun q=>some (.bool false,H.Jn l q .done (some .ret))) r
def zxk (r:qZ) (f:Tr zb→zl→R):R:=@qZ.rec (fun _=>R) none f (fun _ _ _=>none) (fun _ _=>none) r
def zno (n:Nat) (l:List Tmp):Bool:=List.rec true (fun p _ ih=>ifB (Nat.blt p n) ih false) l
def ziT (rec:Rec) (l:Nat) (args:List zb) (H:zl):R:=
 bnd (H.lp l) fun q=>ifB (zq (isReady q.st) (zq (Nat.beq (qM args 0) (qM q.ps.toList 0)) (zno q.n q.ps.toList)))
  (zxk (rec ⟨q.n,q.fn,some l⟩ q.assign (Kn q.ps.toList args q.T) H) fun T H=>bnd (H.lp l) fun q'=>
   ifB (isReady q'.st) (zml l (rec ⟨q.n,q.fn,some l⟩ q.body T (H.Jn l q' .busy q'.pend))) none) none
def zsB (E:Env) (rec:Rec) (args:List zb) (H:zl) (f:FuncId) (first captured:List zb):R:=zkm E rec f (zQ first (zQ args captured)) H
def zi7 (E:Env) (rec:Rec) (g:zb) (args:List zb) (H:zl):R:=
 match g with
 | .fn f first captured=>zsB E rec args H f first captured
 | .yieldf l=>ziT rec l args H
 | _=>none
def zwx (b:Builtin) (args:Array Operand) (ts:Array TypeId):OpF:=fun E _ T H=>bnd (evs T args.toList) fun vs=>Kd E H b ts.toList vs
def zqC (g:Operand) (args:Array Operand):OpF:=fun E rec T H=>bnd (ev T g) fun v=>bnd (evs T args.toList) fun vs=>zi7 E rec v vs H
def zvd (c:Call):OpF:=@Callee.rec (fun _=>Array Operand→Array TypeId→OpF) (fun g args _=>zqC g args) (fun _ _ _ _=>Jx) zwx c.callee c.args c.argTypes
def aop (o:Op):OpF:=@Op.rec (fun _=>OpF)
 zrj zrj zva zsq zxV zso zgn zbl zvc zsj (fun _=>Jx) (fun _=>Jx) zlf zsp zu9 znK
 (fun _ _=>Jx) zbm zlg znI (fun _ _=>Jx) zif zsk zii zsn zih zsm zpr zbl
 (fun _ _ _=>Jx) (fun _ _ _ _=>Jx) zsl zvb (fun _=>Jx) zgm znJ zvd (fun _=>Jx) (fun _=>Jx) (fun _=>Jx)
 (fun _ _=>Jx) (fun _ _ _=>Jx) (fun _ _=>Jx) o
abbrev zeU:=Tr zb→zl→qZ
def zqL (n:Nat) (dst:Option Tmp) (T:Tr zb) (v:zb) (f:Tr zb→qZ):qZ:=
 zh dst (f T) fun d=>ifB (Nat.blt d n) (f (T.set d v)) .fail
def zdB (E:Env) (rec:Rec) (n:Nat) (o:Oper) (T:Tr zb) (H:zl) (k:zeU):qZ:=
 zh (aop o.op E rec T H) .fail fun r=>zqL n o.dst T r.1 fun T'=>k T' r.2
def V6 (T:Tr zb) (d:Tmp) (want:Bool):Bool:=zh (T.get d) false fun v=>zh (asBool v) false fun b=>zlB b want
def Vj (ops:List Oper) (T:Tr zb) (g:Nat×Bool):Bool:=zh (kg g.1 ops) false fun o=>zh o.dst false fun d=>V6 T d g.2
def VU (v:zb):Bool:=ifB (Ur v) true (Ju v)
def zdO (ops:List Oper) (T:Tr zb) (g:Nat×Bool):Bool:=zh (kg g.1 ops) false fun o=>zh o.dst false fun d=>zh (T.get d) false VU
def UO (E:Env) (rec:Rec) (n:Nat) (ops:List Oper) (o:Oper) (k:zeU) (T:Tr zb) (H:zl):qZ:=
 zh o.guard (zdB E rec n o T H k) fun g=>ifB (zdO ops T g) .fail (ifB (Vj ops T g) (zdB E rec n o T H k) (zqL n o.dst T qW fun T'=>k T' H))
def zqN (E:Env) (rec:Rec) (n:Nat) (ops:List Oper) (l:List Oper):zeU:=
 List.rec (motive:=fun _=>zeU) (fun T H=>.nrm T H) (fun o _ ih=>UO E rec n ops o ih) l
structure OpM where
 i:Nat
 pre:Nat
 anc:Nat
 kind:Nat
 o:Oper
def KX (e:Edge):Bool:=Region.binds .any e
def yM (es:List Edge):Nat:=List.rec 0 (fun e _ ih=>ifB (KX e) (Nat.lor (Nat.shiftLeft 1 e.on) ih) ih) es
def Z5 (acc:List Nat) (es:List Edge):Nat:=
 List.rec 0 (fun e _ ih=>ifB (KX e) (Nat.lor (Nat.lor (Nat.shiftLeft 1 e.on) (zh (kg e.on acc) 0 fun a=>a)) ih) ih) es
def Yj (l:List Oper):List Nat→List Nat:=
 List.rec (motive:=fun _=>List Nat→List Nat) (fun acc=>acc) (fun o _ ih acc=>frc (Z5 acc o.after.toList) fun a=>ih (zQ acc [a])) l
def zcv (x:Operand):Option Nat:=match x with | .tmp t=>some t | _=>none
def zk1 (t:Nat) (l:List Operand):Bool:=List.rec false (fun x _ ih=>zh (zcv x) ih fun u=>ifB (Nat.beq u t) true ih) l
def looks (ops:List Oper) (o:Oper) (t:Nat):Bool:=
 ifB (zk1 t o.op.operands.toList) true (zh o.guard false fun g=>zh (kg g.1 ops) false fun q=>zh q.dst false fun d=>Nat.beq d t)
def bit (m i:Nat):Bool:=Nat.beq (Nat.land (Nat.shiftRight m i) 1) 1
def late (ops:List Oper) (w:Nat) (t:Nat) (l:List Oper):List Nat→Bool:=
 List.rec (motive:=fun _=>List Nat→Bool) (fun _=>false)
  (fun o _ ih as=>lC as false fun a as=>ifB (looks ops o t) (ifB (bit a w) (ih as) true) (ih as)) l
def ziO (b:Builtin):Bool:=match b with | .len=>true | .cap=>true | .min=>true | .max=>true | _=>false
def zbM (c:Call):Bool:=match c.callee with | .builtin b=>ziO b | _=>false
def toInt (E:Env) (t:TypeId):Bool:=zh (E.desc t) false isInt
def kR (E:Env) (o:Op):Nat:=
 match o with
 | .move _=>0 | .assign _=>0 | .pick _ _ _=>0 | .build _ _=>0 | .load _ _=>0 | .nilCheck _=>0 | .binOp _ _ _ _ _=>0 | .unOp _ _ _=>0
 | .makeInterface _ _=>0 | .makeFunc _ _ _=>0 | .slice _ _ _ _ _=>0 | .fieldAddr _ _ _=>0 | .field _ _ _=>0 | .indexAddr _ _ _=>0 | .index _ _ _=>0
 | .lookup _ _ _ _=>0 | .typeAssert _ _ _ _=>0 | .extract _ _=>0
 | .convert _ d _=>ifB (toInt E d) 0 2
 | .call c=>ifB (zbM c) 0 2
 | .alloc _=>1 | .box _ _=>1 | .buildSlice _ _ _=>1 | .makeSlice _ _ _=>1
 | _=>2
def kindOf (E:Env) (ops:List Oper) (as:List Nat) (i:Nat) (o:Oper):Nat:=
 zh o.dst (ifB (Nat.beq (kR E o.op) 1) 2 (kR E o.op)) fun d=>ifB (late ops i d ops as) 2 (kR E o.op)
def za5 (E:Env) (ops:List Oper) (as:List Nat) (l:List Oper):Nat→List Nat→List OpM:=
 List.rec (motive:=fun _=>Nat→List Nat→List OpM) (fun _ _=>[])
  (fun o _ ih i bs=>lC bs [] fun a bs=>frc (yM o.after.toList) fun p=>frc (kindOf E ops as i o) fun k=>⟨i,p,a,k,o⟩::ih (Nat.succ i) bs) l
def qu (E:Env) (ops:List Oper):List OpM:=za5 E ops (Yj ops []) ops 0 (Yj ops [])
def zaX (t:Nat) (l:List Oper):Bool:=List.rec true (fun o _ ih=>zh o.dst ih fun d=>ifB (Nat.beq d t) false ih) l
def ZI (l:List Oper):Bool:=List.rec true (fun o r ih=>zh o.dst ih fun d=>ifB (zaX d r) ih false) l
def Ww (a b:Nat):Bool:=Nat.beq (Nat.land a b) a
def Vd (m i:Nat):Nat:=Nat.lor m (Nat.shiftLeft 1 i)
def isK (k:Nat) (m:OpM):Bool:=Nat.beq m.kind k
abbrev DrF:=Nat→Tr zb→zl→qZ
def zn1 (E:Env) (rec:Rec) (n:Nat) (ops:List Oper) (m:OpM) (D:Nat) (T:Tr zb) (H:zl) (k:DrF):qZ:=
 frc (Vd D m.i) fun D'=>UO E rec n ops m.o (fun T H=>k D' T H) T H
def Ue (E:Env) (rec:Rec) (n:Nat) (ops:List Oper) (k:DrF) (l:List OpM):DrF:=
 List.rec (motive:=fun _=>DrF) k
  (fun m _ ih D T H=>ifB (bit D m.i) (ih D T H) (ifB (zq (j8 (isK 2 m)) (Ww m.pre D)) (zn1 E rec n ops m D T H ih) (ih D T H))) l
def sameAs (T:Tr zb) (dst:Option Tmp) (v:zb):Bool:=zh dst true fun d=>zh (T.get d) false fun u=>qf u v
def Zi:Rec:=fun _ _ _ _=>.fail
def bid (v:zb):Option Nat:=match v with | .ptr b _=>some b | .slice b _ _ _ _=>some b | _=>none
def zoS (m:Nat) (v:zb):zb:=match v with | .ptr _ o=>.ptr m o | .slice _ o l c x=>.slice m o l c x | v=>v
def zmj (r q:Row):Bool:=zq (Nat.beq r.t q.t) (zq (Nat.beq r.n q.n) (zky r.c q.c))
def zjr (T:Tr zb) (H:zl) (dst:Option Tmp) (r:zb×zl):Bool:=
 zh dst false fun d=>zh (T.get d) false fun u=>zh (bid u) false fun m=>zh (H.row m) false fun q=>zh (r.2.row H.next) false fun q'=>
  zq (qf (zoS m r.1) u) (zmj q q')
def zeM (E:Env) (T:Tr zb) (H:zl) (row:Bool) (o:Oper):Bool:=
 zh (aop o.op E Zi T H) false fun r=>ifB row (zjr T H o.dst r) (sameAs T o.dst r.1)
def again (E:Env) (ops:List Oper) (T:Tr zb) (H:zl) (row:Bool) (o:Oper):Bool:=
 zh o.guard (zeM E T H row o) fun g=>ifB (zdO ops T g) false (ifB (Vj ops T g) (zeM E T H row o) (sameAs T o.dst qW))
def zbT (E:Env) (ops:List Oper) (HA D:Nat) (T:Tr zb) (H:zl) (l:List OpM):Bool:=
 List.rec true (fun m _ ih=>ifB (zq (j8 (isK 2 m)) (zq (bit D m.i) (j8 (bit HA m.i)))) (ifB (again E ops T H (isK 1 m) m.o) ih false) ih) l
def enabled (D:Nat) (l:List OpM):List OpM:=List.rec [] (fun m _ ih=>ifB (zq (j8 (bit D m.i)) (Ww m.pre D)) (m::ih) ih) l
def JL (next:Nat→DrF) (E:Env) (rec:Rec) (n:Nat) (ops:List Oper) (ms:List OpM) (HA:Nat):DrF:=fun D T H=>
 ifB (zbT E ops HA D T H ms)
  (lC (enabled D ms) (ifB (Nat.beq (Nat.succ D) (Nat.shiftLeft 1 (qM ops 0))) (.nrm T H) .fail)
   fun m r=>lC r (ifB (isK 2 m) (frc (Nat.lor HA m.anc) fun HA'=>zn1 E rec n ops m D T H (next HA')) .fail) fun _ _=>.fail) .fail
def zqp (E:Env) (rec:Rec) (n:Nat) (ops:List Oper) (ms:List OpM) (f:Nat):Nat→DrF:=
 Nat.rec (motive:=fun _=>Nat→DrF) (fun _ _ _ _=>.fail) (fun _ ih HA=>Ue E rec n ops (JL ih E rec n ops ms HA) ms) f
def zgS (E:Env) (rec:Rec) (n:Nat) (ops:List Oper) (T:Tr zb) (H:zl):qZ:=
 ifB (ZI ops) (zqp E rec n ops (qu E ops) (Nat.succ (qM ops 0)) 0 0 T H) .fail
abbrev Wg:=Env→Rec→Fr→Tr zb→zl→qZ
def znw:Wg:=fun _ _ _ _ _=>.fail
def zrg:Wg:=fun _ _ _ T H=>.nrm T H
def zpj (ops:Array Oper) (draw:Bool):Wg:=fun E rec fr T H=>ifB draw (zgS E rec fr.n ops.toList T H) (zqN E rec fr.n ops.toList ops.toList T H)
def zxD (a b:Wg):Wg:=fun E rec fr T H=>@qZ.rec (fun _=>qZ) .fail (fun T H=>b E rec fr T H) (fun id T H=>.ex id T H) (fun T H=>.ret T H) (a E rec fr T H)
def zu7 (c:Operand) (a b:Wg):Wg:=fun E rec fr T H=>zh (ev T c) .fail fun v=>zh (asBool v) .fail fun q=>ifB q (a E rec fr T H) (b E rec fr T H)
def zsd (id:Nat) (a:Wg):Wg:=fun E rec fr T H=>
 @qZ.rec (fun _=>qZ) .fail (fun T H=>.nrm T H) (fun j T H=>ifB (Nat.beq j id) (.nrm T H) (.ex j T H)) (fun T H=>.ret T H) (a E rec fr T H)
def zbh (a b:Option zb):Option zb:=ifB (oeq a b) a (some zoF)
def Xf (t:Tr zb):Tr zb:=Tr.rec .nil (fun _ v _ l r=>.node l (zh v none fun _=>some zoF) r) t
def Zg (t:Tr zb):Tr zb→Tr zb:=
 Tr.rec (motive:=fun _=>Tr zb→Tr zb) (fun s=>Xf s)
  (fun l v r ihl ihr s=>Tr.rec (motive:=fun _=>Tr zb) (Xf (.node l v r)) (fun l' v' r' _ _=>.node (ihl l') (zbh v v') (ihr r')) s) t
def zr5 (a b:Option zo):Bool:=zh a (zh b true fun _=>false) fun x=>zh b false fun y=>yp x y
def zpq (t:Tr zo):Tr zo→Bool:=
 Tr.rec (motive:=fun _=>Tr zo→Bool) (fun s=>Tr.rec (motive:=fun _=>Bool) true (fun _ _ _ _ _=>false) s)
  (fun _ v _ ihl ihr s=>Tr.rec (motive:=fun _=>Bool) false (fun l v' r _ _=>zq (zr5 v v') (zq (ihl l) (ihr r))) s) t
def heq (H H':zl):Bool:=zq (Nat.beq H.next H'.next) (zpq H.blk H'.blk)
def zjQ (a b:qZ):qZ:=
 match a,b with
 | .nrm T H,.nrm T' H'=>ifB (heq H H') (.nrm (Zg T T') H) .fail
 | .ret T H,.ret T' H'=>ifB (heq H H') (.ret (Zg T T') H) .fail
 | .ex i T H,.ex j T' H'=>ifB (zq (Nat.beq i j) (heq H H')) (.ex i (Zg T T') H) .fail
 | _,_=>.fail
def XU (run:List Fact→qZ) (l:List (List Fact)):qZ:=List.rec (motive:=fun _=>qZ) .fail (fun f r ih=>lC r (run f) fun _ _=>zjQ (run f) ih) l
def roundOf (T:Tr zb) (t:Nat):Option Nat:=bnd (T.get t) fun v=>bnd (asInt v) fun p=>Xx p.2 some
def XN (E:Env) (fn:FuncId) (T:Tr zb):Option (List (List Fact)):=bnd (E.alts.get fn) fun q=>bnd (roundOf T q.1) fun i=>kg i q.2
def zjM (c:Code) (rec:Rec) (fr:Fr) (r:qZ):qZ:=@qZ.rec (fun _=>qZ) .fail (fun T H=>rec fr (.loop c) T H) (fun j T H=>.ex j T H) (fun T H=>.ret T H) r
def zu5 (c:Code) (a:Wg):Wg:=fun E rec fr T H=>
 zjM c rec fr (zh (XN E fr.fn T) (a E rec fr T H) fun l=>XU (fun f=>a (E.plus f) Zi fr T H) l)
def zu6 (id:Nat):Wg:=fun _ _ _ T H=>.ex id T H
def zxE:Wg:=fun _ _ _ T H=>.ret T H
def jump (c:Code) (T:Tr zb) (H:zl):qZ:=match c with | .ret=>.ret T H | .exit id=>.ex id T H | _=>.fail
def zfC (l:Nat) (T:Tr zb) (H:zl):qZ:=
 zh (H.lp l) .fail fun q=>ifB (zse q.st) .fail (zh q.pend (.nrm T (H.Jn l q .exhausted q.pend)) fun c=>jump c T (H.Jn l q .exhausted q.pend))
def zrL (fr:Fr) (H:zl):Bool:=zh fr.ro true fun l=>zh (H.lp l) false fun _=>true
def zwE (v:zb):Option (FuncId×List zb×List zb):=match v with | .fn f l m=>some (f,l,m) | _=>none
def zjz (E:Env) (rec:Rec) (fr:Fr) (T:Tr zb) (H:zl) (l:Nat) (q:FuncId×List zb×List zb) (ps:Array Tmp) (assign body:Code):qZ:=
 zh (z8 E rec q.1 (zQ q.2.1 (zQ [.yieldf l] q.2.2)) ⟨H.blk.set l (.loop .ready none fr.fn fr.n T ps assign body),Nat.succ l⟩) .fail fun r=>zfC l T r.2
def zbg (f:Operand) (ps:Array Tmp) (assign body:Code):Wg:=fun E rec fr T H=>
 ifB (zrL fr H) (zh (ev T f) .fail fun v=>zh (zwE v) .fail fun q=>zh (E.spec.get q.1) (frc H.next fun l=>zjz E rec fr T H l q ps assign body) fun _=>.fail) .fail
def Qs (c:Code):Wg:=@Code.rec (fun _=>Wg)
 zrg (fun _ ops d=>zpj ops d) (fun _ _ a b=>zxD a b) (fun c _ _ a b=>zu7 c a b) (fun id _ a=>zsd id a) (fun c a=>zu5 c a)
 (fun f ps a b _ _=>zbg f ps a b) (fun id=>zu6 id) (fun _ _=>znw) (fun _=>zrg) (fun _=>znw) zxE (fun _=>znw) c
def qO (E:Env) (n:Nat):Rec:=Nat.rec (motive:=fun _=>Rec) (fun _ _ _ _=>.fail) (fun _ ih fr c T H=>Qs c E ih fr T H) n
end
end Go.AEv
