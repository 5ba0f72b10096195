/- A verified evaluator of Go code, and its soundness (EvK). Conditions: those of each theorem. -/
import Derived.AtR
open Nat
namespace Go.AEv
section
universe u v
noncomputable section
def ifB{α:Sort u}(b:Bool)(t e:α):α:=Bool.rec e t b
def bnd{α:Type u}{β:Type v}(x:Option α)(f:α->Option β):Option β:=Option.rec none f x
def zh{α:Type u}{β:Sort v}(x:Option α)(e:β)(f:α->β):β:=Option.rec e f x
def frc{α:Sort u}(n:Nat)(f:Nat->α):α:=Nat.rec (f 0) (fun m _=>f m) (Nat.succ n)
def qW{α:Sort u}(n:Nat)(z:α)(s:Nat->α):α:=Nat.rec z (fun m _=>s m) n
def Z5{α:Sort u}(n:Int)(p:Nat->α)(q:Nat->α):α:=Int.rec p q n
inductive Pa where
 | e|o (p:Pa)|i (p:Pa)
 deriving DecidableEq
inductive Tr (α:Type) where
 | nil
 | node (l:Tr α) (v:Option α) (r:Tr α)
def Wb(f:Nat):Nat->Pa:=
 Nat.rec (motive:=fun _=>Nat->Pa) (fun _=>.e)
  (fun _ ih i=>ifB (Nat.beq i 0) .e (ifB (Nat.beq (Nat.mod i 2) 1) (.o (ih (Nat.div i 2))) (.i (ih (Nat.sub (Nat.div i 2) 1))))) f
def path(n:Nat):Pa:=Wb (Nat.succ n) n
def Yk{α:Type}(p:Pa):Tr α->Option α:=
 Pa.rec (motive:=fun _=>Tr α->Option α)
  (fun t=>Tr.rec none (fun _ v _ _ _=>v) t)
  (fun _ ih t=>Tr.rec none (fun l _ _ _ _=>ih l) t)
  (fun _ ih t=>Tr.rec none (fun _ _ r _ _=>ih r) t) p
def UX{α:Type}(a:Option α)(p:Pa):Tr α->Tr α:=
 Pa.rec (motive:=fun _=>Tr α->Tr α)
  (fun t=>Tr.rec (.node .nil a .nil) (fun l _ r _ _=>.node l a r) t)
  (fun _ ih t=>Tr.rec (.node (ih .nil) none .nil) (fun l v r _ _=>.node (ih l) v r) t)
  (fun _ ih t=>Tr.rec (.node .nil none (ih .nil)) (fun l v r _ _=>.node l v (ih r)) t) p
namespace Tr
variable{α:Type}
def get(t:Tr α)(i:Nat):Option α:=Yk (path i) t
def set(t:Tr α)(i:Nat)(a:α):Tr α:=UX (some a) (path i) t
def del(t:Tr α)(i:Nat):Tr α:=UX none (path i) t
end Tr
def lC{α:Type u}{β:Sort v}(l:List α)(z:β)(s:α->List α->β):β:=List.rec z (fun a l _=>s a l) l
end
end
section
universe u
noncomputable section
inductive zb where
 | bool (b:Bool)
 | int (k:IntKind) (n:Int)
 | str (s:List Nat)
 | nilp
 | ptr (b off:Nat)
 | nilslice
 | slice (b off len cap:Nat) (exact:Bool)
 | nilmap
 | map (r:Nat)
 | fn (f:FuncId) (first captured:List zb)
 | yieldf (l:Nat)
 | capv (b c:Nat)
 | nilfn
 | iface (t:TypeId) (v:zb)
 | niliface
 | agg (l:List zb)
 | tuple (l:List zb)
 | sym (i:Nat)
 | esl (b o q:Nat)
 | osl (b:Nat) (v:zb)
 | psl (b o q c:Nat) (ex:Bool)
def jf:zb:=.tuple []
structure Sl where
 b:Nat
 off:Nat
 len:Nat
 cap:Nat
 ex:Bool
def asBool(v:zb):Option Bool:=
 @zb.rec (fun _=>Option Bool) (fun _=>PUnit)
  (fun b=>some b)
  (fun _ _=>none)
  (fun _=>none)
  (none)
  (fun _ _=>none)
  (none)
  (fun _ _ _ _ _=>none)
  (none)
  (fun _=>none)
  (fun _ _ _ _ _=>none)
  (fun _=>none)
  (fun _ _=>none)
  (none)
  (fun _ _ _=>none)
  (none)
  (fun _ _=>none)
  (fun _ _=>none)
  (fun _=>none)
  (fun _ _ _=>none)
  (fun _ _ _=>none)
  (fun _ _ _ _ _=>none)
  ⟨⟩ (fun _ _ _ _=>⟨⟩) v
def asInt(v:zb):Option (IntKind×Int):=
 @zb.rec (fun _=>Option (IntKind×Int)) (fun _=>PUnit)
  (fun _=>none)
  (fun k n=>some (k,n))
  (fun _=>none)
  (none)
  (fun _ _=>none)
  (none)
  (fun _ _ _ _ _=>none)
  (none)
  (fun _=>none)
  (fun _ _ _ _ _=>none)
  (fun _=>none)
  (fun _ _=>none)
  (none)
  (fun _ _ _=>none)
  (none)
  (fun _ _=>none)
  (fun _ _=>none)
  (fun _=>none)
  (fun _ _ _=>none)
  (fun _ _ _=>none)
  (fun _ _ _ _ _=>none)
  ⟨⟩ (fun _ _ _ _=>⟨⟩) v
def Wv(v:zb):Option Int:=
 @zb.rec (fun _=>Option Int) (fun _=>PUnit)
  (fun _=>none)
  (fun _ n=>some n)
  (fun _=>none)
  (none)
  (fun _ _=>none)
  (none)
  (fun _ _ _ _ _=>none)
  (none)
  (fun _=>none)
  (fun _ _ _ _ _=>none)
  (fun _=>none)
  (fun _ _=>none)
  (none)
  (fun _ _ _=>none)
  (none)
  (fun _ _=>none)
  (fun _ _=>none)
  (fun _=>none)
  (fun _ _ _=>none)
  (fun _ _ _=>none)
  (fun _ _ _ _ _=>none)
  ⟨⟩ (fun _ _ _ _=>⟨⟩) v
def Yg(v:zb):Option (Nat×Nat):=
 @zb.rec (fun _=>Option (Nat×Nat)) (fun _=>PUnit)
  (fun _=>none)
  (fun _ _=>none)
  (fun _=>none)
  (none)
  (fun b o=>some (b,o))
  (none)
  (fun _ _ _ _ _=>none)
  (none)
  (fun _=>none)
  (fun _ _ _ _ _=>none)
  (fun _=>none)
  (fun _ _=>none)
  (none)
  (fun _ _ _=>none)
  (none)
  (fun _ _=>none)
  (fun _ _=>none)
  (fun _=>none)
  (fun _ _ _=>none)
  (fun _ _ _=>none)
  (fun _ _ _ _ _=>none)
  ⟨⟩ (fun _ _ _ _=>⟨⟩) v
def kN(v:zb):Option Sl:=
 @zb.rec (fun _=>Option Sl) (fun _=>PUnit)
  (fun _=>none)
  (fun _ _=>none)
  (fun _=>none)
  (none)
  (fun _ _=>none)
  (none)
  (fun b o l c x=>some ⟨b,o,l,c,x⟩)
  (none)
  (fun _=>none)
  (fun _ _ _ _ _=>none)
  (fun _=>none)
  (fun _ _=>none)
  (none)
  (fun _ _ _=>none)
  (none)
  (fun _ _=>none)
  (fun _ _=>none)
  (fun _=>none)
  (fun _ _ _=>none)
  (fun _ _ _=>none)
  (fun _ _ _ _ _=>none)
  ⟨⟩ (fun _ _ _ _=>⟨⟩) v
def jm(v:zb):Option (List Nat):=
 @zb.rec (fun _=>Option (List Nat)) (fun _=>PUnit)
  (fun _=>none)
  (fun _ _=>none)
  (fun s=>some s)
  (none)
  (fun _ _=>none)
  (none)
  (fun _ _ _ _ _=>none)
  (none)
  (fun _=>none)
  (fun _ _ _ _ _=>none)
  (fun _=>none)
  (fun _ _=>none)
  (none)
  (fun _ _ _=>none)
  (none)
  (fun _ _=>none)
  (fun _ _=>none)
  (fun _=>none)
  (fun _ _ _=>none)
  (fun _ _ _=>none)
  (fun _ _ _ _ _=>none)
  ⟨⟩ (fun _ _ _ _=>⟨⟩) v
def asAgg(v:zb):Option (List zb):=
 @zb.rec (fun _=>Option (List zb)) (fun _=>PUnit)
  (fun _=>none)
  (fun _ _=>none)
  (fun _=>none)
  (none)
  (fun _ _=>none)
  (none)
  (fun _ _ _ _ _=>none)
  (none)
  (fun _=>none)
  (fun _ _ _ _ _=>none)
  (fun _=>none)
  (fun _ _=>none)
  (none)
  (fun _ _ _=>none)
  (none)
  (fun l _=>some l)
  (fun _ _=>none)
  (fun _=>none)
  (fun _ _ _=>none)
  (fun _ _ _=>none)
  (fun _ _ _ _ _=>none)
  ⟨⟩ (fun _ _ _ _=>⟨⟩) v
def asTuple(v:zb):Option (List zb):=
 @zb.rec (fun _=>Option (List zb)) (fun _=>PUnit)
  (fun _=>none)
  (fun _ _=>none)
  (fun _=>none)
  (none)
  (fun _ _=>none)
  (none)
  (fun _ _ _ _ _=>none)
  (none)
  (fun _=>none)
  (fun _ _ _ _ _=>none)
  (fun _=>none)
  (fun _ _=>none)
  (none)
  (fun _ _ _=>none)
  (none)
  (fun _ _=>none)
  (fun l _=>some l)
  (fun _=>none)
  (fun _ _ _=>none)
  (fun _ _ _=>none)
  (fun _ _ _ _ _=>none)
  ⟨⟩ (fun _ _ _ _=>⟨⟩) v
def zgD(v:zb):Option (TypeId×zb):=
 @zb.rec (fun _=>Option (TypeId×zb)) (fun _=>PUnit)
  (fun _=>none)
  (fun _ _=>none)
  (fun _=>none)
  (none)
  (fun _ _=>none)
  (none)
  (fun _ _ _ _ _=>none)
  (none)
  (fun _=>none)
  (fun _ _ _ _ _=>none)
  (fun _=>none)
  (fun _ _=>none)
  (none)
  (fun t v _=>some (t,v))
  (none)
  (fun _ _=>none)
  (fun _ _=>none)
  (fun _=>none)
  (fun _ _ _=>none)
  (fun _ _ _=>none)
  (fun _ _ _ _ _=>none)
  ⟨⟩ (fun _ _ _ _=>⟨⟩) v
def QQ(v:zb):Option (Nat×zb):=
 @zb.rec (fun _=>Option (Nat×zb)) (fun _=>PUnit)
  (fun _=>none)
  (fun _ _=>none)
  (fun _=>none)
  (none)
  (fun _ _=>none)
  (none)
  (fun _ _ _ _ _=>none)
  (none)
  (fun _=>none)
  (fun _ _ _ _ _=>none)
  (fun _=>none)
  (fun _ _=>none)
  (none)
  (fun _ _ _=>none)
  (none)
  (fun _ _=>none)
  (fun _ _=>none)
  (fun _=>none)
  (fun _ _ _=>none)
  (fun b v _=>some (b,v))
  (fun _ _ _ _ _=>none)
  ⟨⟩ (fun _ _ _ _=>⟨⟩) v
structure Psl where
 b:Nat
 o:Nat
 q:Nat
 c:Nat
 ex:Bool
def zfp(v:zb):Option Psl:=
 @zb.rec (fun _=>Option Psl) (fun _=>PUnit)
  (fun _=>none)
  (fun _ _=>none)
  (fun _=>none)
  (none)
  (fun _ _=>none)
  (none)
  (fun _ _ _ _ _=>none)
  (none)
  (fun _=>none)
  (fun _ _ _ _ _=>none)
  (fun _=>none)
  (fun _ _=>none)
  (none)
  (fun _ _ _=>none)
  (none)
  (fun _ _=>none)
  (fun _ _=>none)
  (fun _=>none)
  (fun _ _ _=>none)
  (fun _ _ _=>none)
  (fun b o q c x=>some ⟨b,o,q,c,x⟩)
  ⟨⟩ (fun _ _ _ _=>⟨⟩) v
def zjb(v:zb):Option Nat:=
 @zb.rec (fun _=>Option Nat) (fun _=>PUnit)
  (fun _=>none)
  (fun _ _=>none)
  (fun _=>none)
  (none)
  (fun _ _=>none)
  (none)
  (fun _ _ _ _ _=>none)
  (none)
  (fun r=>some r)
  (fun _ _ _ _ _=>none)
  (fun _=>none)
  (fun _ _=>none)
  (none)
  (fun _ _ _=>none)
  (none)
  (fun _ _=>none)
  (fun _ _=>none)
  (fun _=>none)
  (fun _ _ _=>none)
  (fun _ _ _=>none)
  (fun _ _ _ _ _=>none)
  ⟨⟩ (fun _ _ _ _=>⟨⟩) v
def isNil(v:zb):Bool:=
 @zb.rec (fun _=>Bool) (fun _=>PUnit)
  (fun _=>false)
  (fun _ _=>false)
  (fun _=>false)
  (true)
  (fun _ _=>false)
  (false)
  (fun _ _ _ _ _=>false)
  (false)
  (fun _=>false)
  (fun _ _ _ _ _=>false)
  (fun _=>false)
  (fun _ _=>false)
  (true)
  (fun _ _ _=>false)
  (true)
  (fun _ _=>false)
  (fun _ _=>false)
  (fun _=>true)
  (fun _ _ _=>false)
  (fun _ _ _=>false)
  (fun _ _ _ _ _=>false)
  ⟨⟩ (fun _ _ _ _=>⟨⟩) v
def ke(v:zb):Bool:=
 @zb.rec (fun _=>Bool) (fun _=>PUnit)
  (fun _=>false)
  (fun _ _=>false)
  (fun _=>false)
  (false)
  (fun _ _=>false)
  (true)
  (fun _ _ _ _ _=>false)
  (false)
  (fun _=>false)
  (fun _ _ _ _ _=>false)
  (fun _=>false)
  (fun _ _=>false)
  (false)
  (fun _ _ _=>false)
  (false)
  (fun _ _=>false)
  (fun _ _=>false)
  (fun _=>false)
  (fun _ _ _=>false)
  (fun _ _ _=>false)
  (fun _ _ _ _ _=>false)
  ⟨⟩ (fun _ _ _ _=>⟨⟩) v
def zkE(v:zb):Bool:=
 @zb.rec (fun _=>Bool) (fun _=>PUnit)
  (fun _=>false)
  (fun _ _=>false)
  (fun _=>false)
  (true)
  (fun _ _=>false)
  (false)
  (fun _ _ _ _ _=>false)
  (false)
  (fun _=>false)
  (fun _ _ _ _ _=>false)
  (fun _=>false)
  (fun _ _=>false)
  (false)
  (fun _ _ _=>false)
  (false)
  (fun _ _=>false)
  (fun _ _=>false)
  (fun _=>false)
  (fun _ _ _=>false)
  (fun _ _ _=>false)
  (fun _ _ _ _ _=>false)
  ⟨⟩ (fun _ _ _ _=>⟨⟩) v
def yS(v:zb):Bool:=
 @zb.rec (fun _=>Bool) (fun _=>PUnit)
  (fun _=>true)
  (fun _ _=>true)
  (fun _=>true)
  (true)
  (fun _ _=>true)
  (true)
  (fun _ _ _ _ _=>true)
  (true)
  (fun _=>true)
  (fun _ _ _ _ _=>true)
  (fun _=>true)
  (fun _ _=>true)
  (true)
  (fun _ _ _=>true)
  (true)
  (fun _ _=>false)
  (fun _ _=>false)
  (fun _=>true)
  (fun _ _ _=>true)
  (fun _ _ _=>true)
  (fun _ _ _ _ _=>true)
  ⟨⟩ (fun _ _ _ _=>⟨⟩) v
def Ya(v:zb):Bool:=
 @zb.rec (fun _=>Bool) (fun _=>PUnit)
  (fun _=>false)
  (fun _ _=>false)
  (fun _=>false)
  (false)
  (fun _ _=>false)
  (false)
  (fun _ _ _ _ _=>false)
  (false)
  (fun _=>false)
  (fun _ _ _ _ _=>false)
  (fun _=>false)
  (fun _ _=>false)
  (false)
  (fun _ _ _=>false)
  (false)
  (fun _ _=>false)
  (fun _ _=>false)
  (fun _=>true)
  (fun _ _ _=>false)
  (fun _ _ _=>false)
  (fun _ _ _ _ _=>false)
  ⟨⟩ (fun _ _ _ _=>⟨⟩) v
def zvQ(v:zb):Bool:=
 @zb.rec (fun _=>Bool) (fun _=>PUnit)
  (fun _=>false)
  (fun _ _=>false)
  (fun _=>false)
  (false)
  (fun _ _=>false)
  (false)
  (fun _ _ _ _ _=>false)
  (false)
  (fun _=>false)
  (fun _ _ _ _ _=>false)
  (fun _=>false)
  (fun _ _=>false)
  (false)
  (fun _ _ _=>false)
  (false)
  (fun _ _=>false)
  (fun _ _=>false)
  (fun _=>false)
  (fun _ _ _=>true)
  (fun _ _ _=>false)
  (fun _ _ _ _ _=>false)
  ⟨⟩ (fun _ _ _ _=>⟨⟩) v
def zO(v:zb):List zb:=
 @zb.rec (fun _=>List zb) (fun _=>PUnit)
  (fun b=>[zb.bool b])
  (fun k n=>[zb.int k n])
  (fun s=>[zb.str s])
  ([zb.nilp])
  (fun b o=>[zb.ptr b o])
  ([zb.nilslice])
  (fun b o l c x=>[zb.slice b o l c x])
  ([zb.nilmap])
  (fun r=>[zb.map r])
  (fun f l m _ _=>[zb.fn f l m])
  (fun l=>[zb.yieldf l])
  (fun b c=>[zb.capv b c])
  ([zb.nilfn])
  (fun t v _=>[zb.iface t v])
  ([zb.niliface])
  (fun l _=>l)
  (fun l _=>[zb.tuple l])
  (fun i=>[zb.sym i])
  (fun b o q=>[zb.esl b o q])
  (fun b v _=>[zb.osl b v])
  (fun b o q c x=>[zb.psl b o q c x])
  ⟨⟩ (fun _ _ _ _=>⟨⟩) v
def zeX(k:IntKind):Nat:=@IntKind.rec (fun _=>Nat) 0 1 2 3 4 5 6 7 k
def zq7(k j:IntKind):Bool:=Nat.beq (zeX k) (zeX j)
def zah(a b:Int):Bool:=Z5 a (fun m=>Z5 b (Nat.beq m) fun _=>false) fun m=>Z5 b (fun _=>false) (Nat.beq m)
def ilt(a b:Int):Bool:=Z5 a (fun m=>Z5 b (blt m) fun _=>false) fun m=>Z5 b (fun _=>true) fun n=>blt n m
def zea(l:List Nat):List Nat->Bool:=
 List.rec (motive:=fun _=>List Nat->Bool) (fun m=>lC m true fun _ _=>false)
  (fun a _ ih m=>lC m false fun b m=>ifB (Nat.beq a b) (ih m) false) l
def zoG(a b:Bool):Bool:=ifB a b (ifB b false true)
def kI(a:Bool):Bool:=ifB a false true
def zn(a b:Bool):Bool:=ifB a b false
mutual
def qs:zb->zb->Bool
 | .bool a,.bool b=>zoG a b
 | .int k a,.int j b=>zn (zq7 k j) (zah a b)
 | .str a,.str b=>zea a b
 | .nilp,.nilp|.nilslice,.nilslice|.nilmap,.nilmap|.nilfn,.nilfn|.niliface,.niliface=>true
 | .ptr a b,.ptr c d=>zn (Nat.beq a c) (Nat.beq b d)
 | .slice a b c d e,.slice a' b' c' d' e'=>zn (Nat.beq a a') (zn (Nat.beq b b') (zn (Nat.beq c c') (zn (Nat.beq d d') (zoG e e'))))
 | .map a,.map b=>Nat.beq a b
 | .fn f a b,.fn g c d=>zn (Nat.beq f g) (zn (kv a c) (kv b d))
 | .yieldf a,.yieldf b=>Nat.beq a b
 | .capv a b,.capv c d=>zn (Nat.beq a c) (Nat.beq b d)
 | .iface t a,.iface u b=>zn (Nat.beq t u) (qs a b)
 | .agg a,.agg b=>kv a b
 | .tuple a,.tuple b=>kv a b
 | .sym a,.sym b=>Nat.beq a b
 | .esl a b c,.esl d e f=>zn (Nat.beq a d) (zn (Nat.beq b e) (Nat.beq c f))
 | .osl a x,.osl b y=>zn (Nat.beq a b) (qs x y)
 | .psl a b c d e,.psl a' b' c' d' e'=>zn (Nat.beq a a') (zn (Nat.beq b b') (zn (Nat.beq c c') (zn (Nat.beq d d') (zoG e e'))))
 | _,_=>false
def kv:List zb->List zb->Bool
 | [],[]=>true
 | a::l,b::m=>zn (qs a b) (kv l m)
 | _,_=>false
end
def zb4{α:Type}(n:Nat):List α->List α:=
 Nat.rec (motive:=fun _=>List α->List α) (fun _=>[]) (fun _ ih l=>lC l [] fun a m=>a::ih m) n
def zff{α:Type}(n:Nat):List α->List α:=
 Nat.rec (motive:=fun _=>List α->List α) (fun l=>l) (fun _ ih l=>lC l [] fun _ m=>ih m) n
def kY{α:Type}(n:Nat):List α->Option α:=
 Nat.rec (motive:=fun _=>List α->Option α) (fun l=>lC l none fun a _=>some a) (fun _ ih l=>lC l none fun _ m=>ih m) n
def qS{α:Type}(l:List α):Nat->Nat:=List.rec (motive:=fun _=>Nat->Nat) (fun n=>n) (fun _ _ ih n=>frc (Nat.succ n) ih) l
def zP{α:Type}(l m:List α):List α:=List.rec m (fun a _ ih=>a::ih) l
def mapA{α β:Type}(f:α->β)(l:List α):List β:=List.rec [] (fun a _ ih=>f a::ih) l
def J5(n:Nat):List zb->List zb->List zb:=
 Nat.rec (motive:=fun _=>List zb->List zb->List zb)
  (fun m l=>List.rec (motive:=fun _=>List zb->List zb) (fun l=>l) (fun a _ ih l=>lC l [] fun _ l=>a::ih l) m l)
  (fun _ ih m l=>lC l [] fun a l=>a::ih m l) n
def Q9(z:List zb)(n:Nat):List zb:=Nat.rec [] (fun _ ih=>zP z ih) n
def Q0(p:zb->Bool)(l:List zb):Bool:=List.rec true (fun a _ ih=>ifB (p a) ih false) l
namespace Tr
variable{α:Type}
def zhD(l:List α):Tr α->Nat->Tr α:=
 List.rec (motive:=fun _=>Tr α->Nat->Tr α) (fun t _=>t) (fun a _ ih t i=>frc (Nat.succ i) fun j=>ih (t.set i a) j) l
def alt(l:List α):Bool->List α:=List.rec (motive:=fun _=>Bool->List α) (fun _=>[]) (fun a _ ih b=>ifB b (a::ih false) (ih true)) l
def build(f:Nat):List α->Tr α:=Nat.rec (motive:=fun _=>List α->Tr α) (fun _=>.nil) (fun _ ih l=>lC l .nil fun a m=>.node (ih (alt m true)) (some a) (ih (alt m false))) f
def ofList(l:List α):Tr α:=frc (qS l 0) fun n=>ifB (Nat.ble n 48) (zhD l .nil 0) (build n l)
def lft(t:Tr α):Tr α:=Tr.rec .nil (fun l _ _ _ _=>l) t
def rgt(t:Tr α):Tr α:=Tr.rec .nil (fun _ _ r _ _=>r) t
def top(t:Tr α):Option α:=Tr.rec none (fun _ v _ _ _=>v) t
def over(u:Tr α)(lo hi:Nat)(f:Nat):Tr α->Nat->Nat->Tr α:=
 Nat.rec (motive:=fun _=>Tr α->Nat->Nat->Tr α) (fun t _ _=>t)
  (fun _ ih t a s=>ifB (Nat.ble hi a) t (frc (Nat.add a s) fun b=>frc (Nat.add s s) fun q=>frc (Nat.add b s) fun c=>
   .node (ih (lft t) b q) (ifB (Nat.ble lo a) (u.get (Nat.sub a lo)) (top t)) (ih (rgt t) c q))) f
def zns(l:List α)(t:Tr α)(i:Nat):Tr α:=
 frc (qS l 0) fun n=>ifB (Nat.ble n 48) (zhD l t i) (frc (Nat.add i n) fun h=>over (ofList l) i h (Nat.succ h) t 0 1)
def kx(n:Nat):Tr α->Nat->Option (List α):=
 Nat.rec (motive:=fun _=>Tr α->Nat->Option (List α)) (fun _ _=>some [])
  (fun _ ih t i=>bnd (t.get i) fun a=>bnd (ih t (Nat.succ i)) fun l=>some (a::l)) n
def ziI(f:Nat):Nat->Tr α->Nat->Option (List α):=
 Nat.rec (motive:=fun _=>Nat->Tr α->Nat->Option (List α)) (fun n t i=>kx n t i)
  (fun _ ih n t i=>ifB (Nat.ble n 32) (kx n t i) (frc (Nat.div n 2) fun h=>frc (Nat.sub n h) fun k=>frc (Nat.add i h) fun j=>
   bnd (ih h t i) fun l=>bnd (ih k t j) fun m=>some (zP l m))) f
def JX(n:Nat)(t:Tr α)(i:Nat):Option (List α):=ziI 20 n t i
def tree(f:Nat->α)(d:Nat):Nat->Nat->Nat->Tr α:=
 Nat.rec (motive:=fun _=>Nat->Nat->Nat->Tr α) (fun _ _ _=>.nil)
  (fun _ ih a s n=>qW n .nil fun m=>frc (Nat.add a s) fun b=>frc (Nat.add s s) fun q=>frc (Nat.add b s) fun c=>
   .node (frc (Nat.div (Nat.succ m) 2) fun p=>ih b q p) (some (f a)) (frc (Nat.div m 2) fun r=>ih c q r)) d
end Tr
def byteOf(N i:Nat):Nat:=Nat.mod (Nat.shiftRight N (Nat.mul 8 i)) 256
def unp(n N:Nat):Tr zb:=Tr.tree (fun i=>frc (byteOf N i) fun b=>.int .u8 (.ofNat b)) n 0 1 n
def XL(l:List Nat):Nat->Nat->Nat:=
 List.rec (motive:=fun _=>Nat->Nat->Nat) (fun acc _=>acc) (fun b _ ih acc k=>frc (Nat.add acc (Nat.shiftLeft b k)) fun acc=>frc (Nat.add k 8) fun k=>ih acc k) l
def Y7(N o l:Nat):Nat:=Nat.mod (Nat.shiftRight N (Nat.mul 8 o)) (Nat.shiftLeft 1 (Nat.mul 8 l))
def zao(n S M:Nat):Nat:=Nat.add S (Nat.shiftLeft M (Nat.mul 8 n))
def unp0(n:Nat):Nat->List Nat:=Nat.rec (motive:=fun _=>Nat->List Nat) (fun _=>[]) (fun _ ih N=>frc (Nat.mod N 256) fun b=>b::frc (Nat.shiftRight N 8) ih) n
def unpH(f:Nat):Nat->Nat->List Nat:=
 Nat.rec (motive:=fun _=>Nat->Nat->List Nat) (fun n N=>unp0 n N)
  (fun _ ih n N=>ifB (Nat.ble n 8) (unp0 n N) (frc (Nat.div n 2) fun h=>frc (Nat.sub n h) fun k=>zP (frc (Y7 N 0 h) fun L=>ih h L) (frc (Nat.shiftRight N (Nat.mul 8 h)) fun M=>ih k M))) f
def unpB(n:Nat):Nat->List Nat->List Nat:=Nat.rec (motive:=fun _=>Nat->List Nat->List Nat) (fun _ r=>r) (fun _ ih N r=>frc (Nat.mod N 256) fun b=>b::frc (Nat.shiftRight N 8) fun M=>ih M r) n
def unpA(f:Nat):Nat->Nat->List Nat->List Nat:=
 Nat.rec (motive:=fun _=>Nat->Nat->List Nat->List Nat) (fun n N r=>unpB n N r)
  (fun _ ih n N r=>ifB (Nat.ble n 8) (unpB n N r) (frc (Nat.div n 2) fun h=>frc (Nat.sub n h) fun k=>frc (Y7 N 0 h) fun L=>ih h L (frc (Nat.shiftRight N (Nat.mul 8 h)) fun M=>ih k M r))) f
def unpL(n N:Nat):List Nat:=unpA 20 n N []
inductive zo where
 | cells (t:TypeId) (n:Nat) (c:Tr zb)
 | map (es:List (zb×zb×Nat)) (clock:Nat)
 | loop (st:LoopState) (pend:Option Code) (fn:FuncId) (n:Nat) (T:Tr zb) (ps:Array Tmp) (assign body:Code)
 | siter (s:List Nat) (pos:Nat)
 | text (t:TypeId) (v:zb)
 | pack (t:TypeId) (n N:Nat)
 | ints (t:TypeId) (v:zb)
 | view (c:Tr zb)
structure Row where
 t:TypeId
 n:Nat
 c:Tr zb
structure Lp where
 st:LoopState
 pend:Option Code
 fn:FuncId
 n:Nat
 T:Tr zb
 ps:Array Tmp
 assign:Code
 body:Code
def zsg(b:zo):Option Row:=zo.rec (fun t n c=>some ⟨t,n,c⟩) (fun _ _=>none) (fun _ _ _ _ _ _ _ _=>none) (fun _ _=>none) (fun _ _=>none) (fun t n N=>some ⟨t,n,unp n N⟩) (fun _ _=>none) (fun _=>none) b
def zgB(b:zo):Option (List (zb×zb×Nat)×Nat):=zo.rec (fun _ _ _=>none) (fun es c=>some (es,c)) (fun _ _ _ _ _ _ _ _=>none) (fun _ _=>none) (fun _ _=>none) (fun _ _ _=>none) (fun _ _=>none) (fun _=>none) b
def ya(b:zo):Option Lp:=zo.rec (fun _ _ _=>none) (fun _ _=>none) (fun a b c d e f g h=>some ⟨a,b,c,d,e,f,g,h⟩) (fun _ _=>none) (fun _ _=>none) (fun _ _ _=>none) (fun _ _=>none) (fun _=>none) b
def zxw(b:zo):Option (List Nat×Nat):=zo.rec (fun _ _ _=>none) (fun _ _=>none) (fun _ _ _ _ _ _ _ _=>none) (fun s p=>some (s,p)) (fun _ _=>none) (fun _ _ _=>none) (fun _ _=>none) (fun _=>none) b
def Lp.blk(l:Lp):zo:=.loop l.st l.pend l.fn l.n l.T l.ps l.assign l.body
def zas(b:zo):Option (TypeId×zb):=zo.rec (fun _ _ _=>none) (fun _ _=>none) (fun _ _ _ _ _ _ _ _=>none) (fun _ _=>none) (fun t v=>some (t,v)) (fun _ _ _=>none) (fun _ _=>none) (fun _=>none) b
structure Heap where
 blk:Tr zo
 next:Nat
inductive Spec where
 | mapsClone
 | indexByte
 | makeNoZero (e:TypeId)
 | same
 | insert
 | compare
 | count
 | fact
structure Seg where
 lo:Nat
 hi:Nat
 cid:Nat
 ai:Nat
 fi:Nat
 ci:Nat
inductive Fact where
 | bin (op:BinOp) (a b r:zb)
 | eq (sh:Nat) (a b:zb) (r:Bool)
 | conv (k:IntKind) (a r:zb)
 | len (a r:zb)
 | min (a b r:zb)
 | max (a b r:zb)
 | sub (a lo hi r:zb)
 | call (f:FuncId) (args:List zb) (r:zb)
 | make (f:FuncId) (args:List zb) (N n:Nat) (rows:List (Nat×zo)) (r:zb)
 | at_ (a:zb) (i:Nat) (r:zb)
 | pack (l:List zb) (r:zb)
 | read (f:FuncId) (args:List zb) (r:zb)
 | memo (f:FuncId) (args:List zb) (nx:Nat) (rin rout:List (Nat×zo)) (r:zb) (nx':Nat)
 | num (q lo hi:Nat)
 | diff (q m r:Nat)
 | callF (g:FuncId->List zb->Option zb)
 | makeF (g:FuncId->List zb->Option (Nat×Nat×List (Nat×zo)×zb))
 | binF (g:BinOp->zb->zb->Option zb)
 | unF (g:UnOp->zb->Option zb)
 | slen (a r:zb)
 | ssub (a h r:zb)
 | memoG (f:FuncId) (N:Nat) (segs:List Seg) (args:List zb) (nx:Nat) (rin rout:List (Nat×zo)) (r:zb) (nx':Nat)
structure Env where
 P:Program
 types:Tr TypeInfo
 funcs:Tr Func
 spec:Tr Spec
 facts:List Fact
 tabs:List (Nat×zo)
 alts:Tr (Nat×List (List (List Fact)))
def Zb(P:Program)(spec:List (FuncId×Spec))(facts:List Fact)(tabs:List (Nat×zo)):Env:=
 ⟨P,Tr.ofList P.types.toList,Tr.ofList P.funcs.toList,spec.foldl (fun t p=>t.set p.1 p.2) .nil,facts,tabs,.nil⟩
def Env.withAlts(E:Env)(f t:Nat)(l:List (List (List Fact))):Env:=⟨E.P,E.types,E.funcs,E.spec,E.facts,E.tabs,Tr.set .nil f (t,l)⟩
def Env.plus(E:Env)(l:List Fact):Env:=⟨E.P,E.types,E.funcs,E.spec,zP l E.facts,E.tabs,.nil⟩
def jq(l:List (Nat×zo)):Tr zo:=List.rec .nil (fun p _ ih=>ih.set p.1 p.2) l
def descOf(T:Tr TypeInfo)(d:TypeDesc):Option TypeDesc:=
 match d with
 | .named _ u=>bnd (T.get u) fun j=>some j.desc
 | d=>some d
def Env.desc(E:Env)(t:TypeId):Option TypeDesc:=bnd (E.types.get t) fun i=>descOf E.types i.desc
def Env.size(E:Env)(t:TypeId):Option Nat:=bnd (E.types.get t) fun i=>some i.size
def zA7(d:TypeDesc):Bool:=match d with|.struct _=>true|.array _ _=>true|_=>false
def Env.isAgg(E:Env)(t:TypeId):Option Bool:=bnd (E.desc t) fun d=>some (zA7 d)
def j8(d:TypeDesc):Option TypeId:=match d with|.slice e=>some e|_=>none
def Qp(d:TypeDesc):Option (Nat×TypeId):=match d with|.array n e=>some (n,e)|_=>none
def ZS(d:TypeDesc):Option (List Field):=match d with|.struct fs=>some fs.toList|_=>none
def zkZ(d:TypeDesc):Option TypeId:=match d with|.pointer e=>some e|_=>none
def Wo(d:TypeDesc):Option IntKind:=match d with|.int k=>some k|_=>none
def zom(d:TypeDesc):Option (TypeId×TypeId):=match d with|.map k e=>some (k,e)|_=>none
def kF(d:TypeDesc):Bool:=match d with|.string=>true|_=>false
def zrT(d:TypeDesc):Bool:=match d with|.interface _=>true|_=>false
def zgs(d:TypeDesc):Bool:=match d with|.unsafePointer=>true|_=>false
def zgf(k:IntKind):Bool:=Nat.beq (zeX k) 4
def Wi(k:IntKind):Bool:=Nat.beq (zeX k) 3
def zA(s:ByteArray):List Nat:=mapA UInt8.toNat s.data.toList
mutual
def ofV:Nat->Value->Option zb
 | 0,_=>none
 | _+1,.bool b=>some (.bool b)
 | _+1,.int k n=>some (.int k n)
 | _+1,.string s=>some (.str (zA s))
 | _+1,.pointer none=>some .nilp
 | _+1,.slice none 0 0=>some .nilslice
 | _+1,.map none=>some .nilmap
 | _+1,.nilFunc=>some .nilfn
 | _+1,.nilIface=>some .niliface
 | n+1,.agg cs=>bnd (zko n cs.toList) fun l=>some (.agg l)
 | n+1,.tuple cs=>bnd (zko n cs.toList) fun l=>some (.tuple l)
 | _+1,_=>none
def zko:Nat->List Value->Option (List zb)
 | 0,_=>none
 | _+1,[]=>some []
 | n+1,v::l=>bnd (ofV n v) fun a=>bnd (zko n l) fun m=>some (a::m)
end
def Env.zero(E:Env)(t:TypeId):Option zb:=bnd (E.types.get t) fun i=>bnd i.zero fun v=>ofV 5000 v
def Heap.row(H:Heap)(b:Nat):Option Row:=bnd (H.blk.get b) zsg
def zvh(b:zo):Option Row:=zo.rec (fun t n c=>some ⟨t,n,c⟩) (fun _ _=>none) (fun _ _ _ _ _ _ _ _=>none) (fun _ _=>none) (fun _ _=>none) (fun _ _ _=>none) (fun _ _=>none) (fun _=>none) b
def Heap.zuQ(H:Heap)(b:Nat):Option Row:=bnd (H.blk.get b) zvh
def zxv(b:zo):Option (Tr zb):=zo.rec (fun _ _ _=>none) (fun _ _=>none) (fun _ _ _ _ _ _ _ _=>none) (fun _ _=>none) (fun _ _=>none) (fun _ _ _=>none) (fun _ _=>none) (fun c=>some c) b
def Heap.zij(H:Heap)(b off:Nat):Option zb:=zh (H.row b) (bnd (H.blk.get b) fun k=>bnd (zxv k) fun c=>c.get off) fun r=>r.c.get off
def Heap.kM(H:Heap)(b off n:Nat):Option (List zb):=bnd (H.row b) fun r=>Tr.JX n r.c off
def Heap.put(H:Heap)(b:Nat)(r:Row)(c:Tr zb):Heap:=⟨H.blk.set b (.cells r.t r.n c),H.next⟩
def Heap.Jv(H:Heap)(b off:Nat)(l:List zb):Option Heap:=
 bnd (H.row b) fun r=>ifB (zn (Nat.ble 100 b) (zn (Nat.ble (Nat.add off (qS l 0)) r.n) (Q0 yS l))) (some (H.put b r (Tr.zns l r.c off))) none
def Heap.new(H:Heap)(t:TypeId)(l:List zb):Heap:=⟨H.blk.set H.next (.cells t (qS l 0) (Tr.ofList l)),Nat.succ H.next⟩
structure Pk where
 t:TypeId
 n:Nat
 N:Nat
def zgA(b:zo):Option Pk:=zo.rec (fun _ _ _=>none) (fun _ _=>none) (fun _ _ _ _ _ _ _ _=>none) (fun _ _=>none) (fun _ _=>none) (fun t n N=>some ⟨t,n,N⟩) (fun _ _=>none) (fun _=>none) b
abbrev R:=Option (zb×Heap)
def Z7(H:Heap)(v:Option zb):R:=bnd v fun v=>some (v,H)
def zkw(H:Heap)(t:TypeId)(l:List zb)(f:Nat->zb):R:=frc H.next fun m=>some (f m,Heap.new ⟨H.blk,m⟩ t l)
def Env.loadVar(E:Env)(H:Heap)(t:TypeId)(b off:Nat):Option zb:=
 bnd (E.isAgg t) fun g=>ifB g (bnd (E.size t) fun n=>bnd (H.kM b off n) fun l=>some (.agg l)) (H.zij b off)
def Env.storeVar(E:Env)(H:Heap)(t:TypeId)(b off:Nat)(v:zb):Option Heap:=
 bnd (E.size t) fun n=>ifB (Nat.beq (qS (zO v) 0) n) (H.Jv b off (zO v)) none
def half(k:IntKind):Nat:=@IntKind.rec (fun _=>Nat) 128 32768 2147483648 9223372036854775808 256 65536 4294967296 18446744073709551616 k
def full(k:IntKind):Nat:=@IntKind.rec (fun _=>Nat) 256 65536 4294967296 18446744073709551616 256 65536 4294967296 18446744073709551616 k
def zqy(k:IntKind):Nat:=@IntKind.rec (fun _=>Nat) 8 16 32 64 8 16 32 64 k
def Qa(k:IntKind)(n:Int):Nat:=Z5 n (fun m=>Nat.mod m (full k)) fun m=>Nat.sub (Nat.sub (full k) 1) (Nat.mod m (full k))
def back(k:IntKind)(m:Nat):Int:=ifB (blt m (half k)) (.ofNat m) (.negSucc (Nat.sub (Nat.sub (full k) 1) m))
def Zi(k:IntKind)(n:Int):Int:=back k (Qa k n)
def mkInt(k:IntKind)(n:Int):zb:=Z5 n (fun m=>frc m fun m=>.int k (.ofNat m)) fun m=>frc m fun m=>.int k (.negSucc m)
def jA(b:Bool):zb:=ifB b (.bool true) (.bool false)
def mkNat(n:Nat):zb:=frc n fun m=>.int .i64 (.ofNat m)
def We{α:Type u}(i:Int)(f:Nat->Option α):Option α:=Z5 i f fun _=>none
end
end
section
universe u
noncomputable section
def zsN:zb:=.str [256]
def zaZ(v:zb):Bool:=match v with|.str l=>lC l false fun a _=>Nat.beq a 256|_=>false
def zmK(t:Nat)(T:Tr zb):Option zb:=zh (T.get t) (some jf) fun v=>ifB (zaZ v) none (some v)
def zt1(v:Value)(_:Tr zb):Option zb:=ofV 5000 v
def zrF(g:Nat)(_:Tr zb):Option zb:=ifB (blt g 60) (some (.ptr g 0)) none
def zxl(f:Nat)(_:Tr zb):Option zb:=some (.fn f [] [])
def ev(T:Tr zb)(o:Operand):Option zb:=@Operand.rec (fun _=>Tr zb->Option zb) zmK zt1 zrF zxl o T
def evs(T:Tr zb)(l:List Operand):Option (List zb):=List.rec (some []) (fun o _ ih=>bnd (ev T o) fun a=>bnd ih fun m=>some (a::m)) l
def zgr(T:Tr zb)(l:List (Nat×Operand)):Option (List (Nat×zb)):=
 List.rec (some []) (fun o _ ih=>bnd (ev T o.2) fun a=>bnd ih fun m=>some ((o.1,a)::m)) l
def evO(T:Tr zb)(o:Option Operand):Option (Option zb):=zh o (some none) fun o=>bnd (ev T o) fun v=>some (some v)
def XJ(m n:Nat):Int:=ifB (Nat.ble n m) (.ofNat (Nat.sub m n)) (.negSucc (Nat.sub (Nat.sub n m) 1))
def zw3(a:Int):Int:=Z5 a (fun m=>XJ 0 m) fun m=>.ofNat (Nat.succ m)
def zkH(a b:Int):Int:=
 Z5 a (fun m=>Z5 b (fun n=>.ofNat (Nat.add m n)) fun n=>XJ m (Nat.succ n))
  fun m=>Z5 b (fun n=>XJ n (Nat.succ m)) fun n=>.negSucc (Nat.succ (Nat.add m n))
def ztF(a b:Int):Int:=zkH a (zw3 b)
def zgj(a b:Int):Int:=
 Z5 a (fun m=>Z5 b (fun n=>.ofNat (Nat.mul m n)) fun n=>XJ 0 (Nat.mul m (Nat.succ n)))
  fun m=>Z5 b (fun n=>XJ 0 (Nat.mul (Nat.succ m) n)) fun n=>.ofNat (Nat.mul (Nat.succ m) (Nat.succ n))
def zmw(a b:Int):Int:=
 Z5 a (fun m=>Z5 b (fun n=>.ofNat (Nat.div m n)) fun n=>XJ 0 (Nat.div m (Nat.succ n)))
  fun m=>Z5 b (fun n=>XJ 0 (Nat.div (Nat.succ m) n)) fun n=>.ofNat (Nat.div (Nat.succ m) (Nat.succ n))
def ziu(a b:Int):Int:=
 Z5 a (fun m=>Z5 b (fun n=>.ofNat (Nat.mod m n)) fun n=>.ofNat (Nat.mod m (Nat.succ n)))
  fun m=>Z5 b (fun n=>XJ 0 (Nat.mod (Nat.succ m) n)) fun n=>XJ 0 (Nat.mod (Nat.succ m) (Nat.succ n))
abbrev IOp:=IntKind->Int->IntKind->Int->Option zb
def same(k j:IntKind)(v:zb):Option zb:=ifB (zq7 k j) (some v) none
def zCi:IOp:=fun k a j b=>same k j (mkInt k (Zi k (zkH a b)))
def zB5:IOp:=fun k a j b=>same k j (mkInt k (Zi k (ztF a b)))
def zCb:IOp:=fun k a j b=>same k j (mkInt k (Zi k (zgj a b)))
def zB9:IOp:=fun k a j b=>ifB (zah b (.ofNat 0)) none (same k j (mkInt k (Zi k (zmw a b))))
def zB8:IOp:=fun k a j b=>ifB (zah b (.ofNat 0)) none (same k j (mkInt k (ziu a b)))
def zCh:IOp:=fun k a j b=>same k j (mkInt k (back k (land (Qa k a) (Qa k b))))
def iOr:IOp:=fun k a j b=>same k j (mkInt k (back k (lor (Qa k a) (Qa k b))))
def zB4:IOp:=fun k a j b=>same k j (mkInt k (back k (Nat.xor (Qa k a) (Qa k b))))
def ztL:IOp:=fun k a j b=>same k j (mkInt k (back k (land (Qa k a) (Nat.xor (Qa k b) (Nat.sub (full k) 1)))))
def shN(k:IntKind)(y:Nat):Nat:=ifB (Nat.ble y (zqy k)) y (zqy k)
def zB7:IOp:=fun k a _ b=>We b fun y=>some (mkInt k (Zi k (zgj a (.ofNat (Nat.pow 2 (shN k y))))))
def zB6:IOp:=fun k a _ b=>We b fun y=>some (mkInt k (Z5 a (fun m=>.ofNat (Nat.div m (Nat.pow 2 (shN k y)))) fun m=>.negSucc (Nat.div m (Nat.pow 2 (shN k y)))))
def zCg:IOp:=fun k a j b=>same k j (jA (zah a b))
def zCa:IOp:=fun k a j b=>same k j (jA (kI (zah a b)))
def zCc:IOp:=fun k a j b=>same k j (jA (ilt a b))
def zCd:IOp:=fun k a j b=>same k j (jA (kI (ilt b a)))
def zCe:IOp:=fun k a j b=>same k j (jA (ilt b a))
def zCf:IOp:=fun k a j b=>same k j (jA (kI (ilt a b)))
def Yb(op:BinOp):IOp:=@BinOp.rec (fun _=>IOp) zCi zB5 zCb zB9 zB8 zCh iOr zB4 zB7 zB6 ztL zCg zCa zCc zCd zCe zCf op
def KW(l:List Nat):List Nat->Bool:=
 List.rec (motive:=fun _=>List Nat->Bool) (fun m=>lC m false fun _ _=>true)
  (fun a _ ih m=>lC m false fun b m=>ifB (blt a b) true (ifB (Nat.beq a b) (ih m) false)) l
abbrev SOp:=List Nat->List Nat->Option zb
def Vo:SOp:=fun _ _=>none
def zBD:SOp:=fun a b=>ifB (Nat.ble (qS a (qS b 0)) 1000000000) (some (.str (zP a b))) none
def zBC:SOp:=fun a b=>some (jA (zea a b))
def zBx:SOp:=fun a b=>some (jA (kI (zea a b)))
def zBy:SOp:=fun a b=>some (jA (KW a b))
def zBz:SOp:=fun a b=>some (jA (kI (KW b a)))
def zBA:SOp:=fun a b=>some (jA (KW b a))
def zBB:SOp:=fun a b=>some (jA (kI (KW a b)))
def zvE(op:BinOp):SOp:=@BinOp.rec (fun _=>SOp) zBD Vo Vo Vo Vo Vo Vo Vo Vo Vo Vo zBC zBx zBy zBz zBA zBB op
def zqb(op:BinOp):Nat:=@BinOp.rec (fun _=>Nat) 0 1 2 3 4 5 6 7 8 9 10 11 12 13 14 15 16 op
def findF{α:Type}(p:Fact->Option α)(l:List Fact):Option α:=List.rec none (fun f _ ih=>zh (p f) ih some) l
def zcS(op:BinOp)(a b:zb)(f:Fact):Option zb:=match f with|.bin o x y r=>ifB (zn (Nat.beq (zqb op) (zqb o)) (zn (qs a x) (qs b y))) (some r) none|.binF g=>g op a b|_=>none
def mUn(op:UnOp)(a:zb)(f:Fact):Option zb:=match f with|.unF g=>g op a|_=>none
def mEq(sh:Nat)(a b:zb)(f:Fact):Option Bool:=match f with|.eq h x y r=>ifB (zn (Nat.beq sh h) (zn (qs a x) (qs b y))) (some r) none|_=>none
def zqY(k:IntKind)(a:zb)(f:Fact):Option zb:=match f with|.conv j x r=>ifB (zn (zq7 k j) (qs a x)) (some r) none|_=>none
def zd8(a:zb)(f:Fact):Option zb:=match f with|.len x r=>ifB (qs a x) (some r) none|_=>none
def zwT(a b:zb)(f:Fact):Option zb:=match f with|.min x y r=>ifB (zn (qs a x) (qs b y)) (some r) none|_=>none
def zwU(a b:zb)(f:Fact):Option zb:=match f with|.max x y r=>ifB (zn (qs a x) (qs b y)) (some r) none|_=>none
def zqM(a l h:zb)(f:Fact):Option zb:=match f with|.sub x y z r=>ifB (zn (qs a x) (zn (qs l y) (qs h z))) (some r) none|_=>none
def zqQ(a:zb)(f:Fact):Option zb:=match f with|.slen x r=>ifB (qs a x) (some r) none|_=>none
def zqO(a h:zb)(f:Fact):Option zb:=match f with|.ssub x y r=>ifB (zn (qs a x) (qs h y)) (some r) none|_=>none
def zid(g:FuncId)(as:List zb)(f:Fact):Option zb:=match f with|.call h bs r=>ifB (zn (Nat.beq g h) (kv as bs)) (some r) none|.callF p=>p g as|_=>none
def mAt(a:zb)(i:Nat)(f:Fact):Option zb:=match f with|.at_ x j r=>ifB (zn (qs a x) (Nat.beq i j)) (some r) none|_=>none
def zmn(l:List zb)(f:Fact):Option zb:=match f with|.pack m r=>ifB (kv l m) (some r) none|_=>none
def shapeOf(d:TypeDesc):Option Nat:=match d with|.int _=>some 1|.string=>some 2|.bool=>some 3|_=>none
def zpj(E:Env)(t:TypeId)(a b:zb):Option Bool:=bnd (E.desc t) fun d=>bnd (shapeOf d) fun sh=>findF (mEq sh a b) E.facts
def Env.apart(E:Env)(t:TypeId)(cs:List zb)(off:Nat):Option zb:=
 bnd (E.isAgg t) fun g=>ifB g (bnd (E.size t) fun n=>some (.agg (zb4 n (zff off cs)))) (kY off cs)
mutual
def Yu(E : Env)(H : Heap) : Nat -> TypeId -> zb -> zb -> Option Bool
  | 0, _, _, _ => none
  | f + 1, t, x, y => ifB (zn (kI (Ya x)) (kI (Ya y)))
   (match E.desc t, x, y with
    | some .bool, .bool a, .bool b => some (zoG a b)
    | some (.int _), .int k a, .int j b => match zq7 k j with|true => some (zah a b)|false => none
    | some .string, .str a, .str b => some (zea a b)
    | some (.pointer _), .nilp, .nilp => some true
    | some (.pointer _), .nilp, .ptr _ _ => some false
    | some (.pointer _), .ptr _ _, .nilp => some false
    | some (.pointer e), .ptr a i, .ptr b j =>
      match E.size e with
      | none => none
      | some 0 => none
      | some (_ + 1) =>
        match H.row a, H.row b with
        | some _, some _ => match Nat.beq a b with|true => some (Nat.beq i j)|false => none
        | _, _ => none
    | some (.map _ _), .nilmap, .nilmap => some true
    | some (.map _ _), .nilmap, .map _ => some false
    | some (.map _ _), .map _, .nilmap => some false
    | some (.slice _), .nilslice, .nilslice => some true
    | some (.slice _), .nilslice, .slice _ _ _ _ _ => some false
    | some (.slice _), .slice _ _ _ _ _, .nilslice => some false
    | some (.slice _), .nilslice, .esl _ _ _ => some false
    | some (.slice _), .esl _ _ _, .nilslice => some false
    | some (.slice _), .nilslice, .osl _ _ => some false
    | some (.slice _), .osl _ _, .nilslice => some false
    | some (.slice _), .nilslice, .psl _ _ _ _ _ => some false
    | some (.slice _), .psl _ _ _ _ _, .nilslice => some false
    | some (.func _ _ _), .nilfn, .nilfn => some true
    | some (.func _ _ _), .nilfn, .fn _ _ _ => some false
    | some (.func _ _ _), .fn _ _ _, .nilfn => some false
    | some (.interface _), .niliface, .niliface => some true
    | some (.interface _), .niliface, .iface _ _ => some false
    | some (.interface _), .iface _ _, .niliface => some false
    | some (.interface _), .iface ta va, .iface tb vb =>
      match Nat.beq ta tb with
      | false => some false
      | true =>
        match E.types.get ta with
        | none => none
        | some i => match i.comparable with|true => Yu E H f ta va vb|false => none
    | some (.struct fs), .agg xs, .agg ys => match E.P.stoodInHeld t with|true => none|false => Jr E H f fs.toList xs ys
    | some (.array n e), .agg xs, .agg ys =>
      match E.size e with
      | none => none
      | some s => YZ E H f e s (List.range n) xs ys
    | _, _, _ => none) (zpj E t x y)
def Jr(E:Env)(H:Heap):Nat->List Field->List zb->List zb->Option Bool
 | 0,_,_,_=>none
 | _+1,[],_,_=>some true
 | f+1,d::ds,xs,ys=>
  ifB (d.name == "_") none (bnd (E.apart d.type xs d.offset) fun a=>bnd (E.apart d.type ys d.offset) fun b=>
   bnd (Yu E H f d.type a b) fun r=>ifB r (Jr E H f ds xs ys) (some false))
def YZ(E:Env)(H:Heap):Nat->TypeId->Nat->List Nat->List zb->List zb->Option Bool
 | 0,_,_,_,_,_=>none
 | _+1,_,_,[],_,_=>some true
 | f+1,e,s,i::is,xs,ys=>
  bnd (E.apart e xs (Nat.mul i s)) fun a=>bnd (E.apart e ys (Nat.mul i s)) fun b=>
   bnd (Yu E H f e a b) fun r=>ifB r (YZ E H f e s is xs ys) (some false)
end
def isConst(o:Operand):Bool:=match o with|.const _=>true|_=>false
def zfd(E:Env)(t:TypeId)(x y:Operand)(a:zb):Bool:=
 match a with
 | .niliface=>ifB (isConst x) true (isConst y)
 | .agg _=>kI (E.P.eqGuardType E.P.depth t)
 | _=>true
def zCo(E:Env)(H:Heap)(t:TypeId)(x y:Operand)(a b:zb)(f:Bool->Bool):Option zb:=
 ifB (zfd E t x y a) (bnd (Yu E H 10000 t a b) fun r=>some (jA (f r))) none
def zmM(op:BinOp):Option (Bool->Bool):=match op with|.eql=>some (fun b=>b)|.neq=>some kI|_=>none
def zvP(op:BinOp):Bool:=match op with|.gtr=>true|_=>false
def zv0(op:BinOp)(m:Int)(b:zb):Option zb:=
 match b with
 | .capv _ c=>ifB (zvP op) (We m fun m=>ifB (Nat.ble m c) (some (.bool false)) none) none
 | _=>none
def zBa(E:Env)(H:Heap)(op:BinOp)(t:TypeId)(x y:Operand)(a b:zb):Option zb:=
 bnd (zmM op) fun f=>zCo E H t x y a b f
def zv4(E:Env)(H:Heap)(op:BinOp)(t:TypeId)(x y:Operand)(a b:zb):Option zb:=
 zh (jm a) (zBa E H op t x y a b) fun m=>bnd (jm b) fun n=>zvE op m n
def zBb(op:BinOp)(k:IntKind)(m:Int)(b:zb):Option zb:=ifB (Wi k) (zv0 op m b) none
def zjK(E:Env)(op:BinOp)(t:TypeId)(a b:zb):Option zb:=
 zh (findF (zcS op a b) E.facts) (bnd (zmM op) fun f=>bnd (zpj E t a b) fun r=>some (jA (f r))) some
def zxC(E : Env)(H : Heap)(op : BinOp)(t : TypeId)(x y : Operand)(a b : zb) : Option zb := ifB (zn (kI (Ya a)) (kI (Ya b)))
 (  zh (asInt a) (zv4 E H op t x y a b) fun p => zh (asInt b) (zBb op p.1 p.2 b) fun q => Yb op p.1 p.2 q.1 q.2) (zjK E op t a b)
def inB{α:Type u}(i:Int)(n:Nat)(f:Nat->Option α):Option α:=Z5 i (fun m=>ifB (blt m n) (f m) none) fun _=>none
def jw{α:Type u}(v:Option zb)(dflt most:Nat)(f:Nat->Option α):Option α:=
 zh v (f dflt) fun v=>bnd (Wv v) fun i=>We i fun m=>ifB (Nat.ble m most) (f m) none
def W9(v:zb):Option Nat:=bnd (asInt v) fun p=>ifB (zgf p.1) (We p.2 fun n=>some (Nat.mod n 256)) none
def Us(p:zb->Option Nat)(l:List zb):List Nat->Option (List Nat):=List.rec (motive:=fun _=>List Nat->Option (List Nat)) (fun acc=>some acc) (fun v _ ih acc=>bnd (p v) fun b=>ih (b::acc)) l
def zsX(l:List Nat):List Nat->List Nat:=List.rec (motive:=fun _=>List Nat->List Nat) (fun acc=>acc) (fun a _ ih acc=>frc 0 fun _=>ih (a::acc)) l
def YU(p:zb->Option Nat)(l:List zb):Option (List Nat):=bnd (Us p l []) fun r=>some (zsX r [])
def Ut(l:List zb):Option (List Nat):=YU W9 l
def u8(b:Nat):zb:=.int .u8 (.ofNat b)
def zjJ(E:Env)(x:zb)(lo hi mx:Option zb):Option zb:=
 zh mx (zh hi none fun h=>zh lo (findF (zqM x (.int .i64 (.ofNat 0)) h) E.facts) fun l=>findF (zqM x l h) E.facts) fun _=>none
def zpr(s:List Nat)(lo hi mx:Option zb):Option zb:=
 zh mx (jw hi (qS s 0) (qS s 0) fun h=>jw lo 0 h fun l=>some (.str (zff l (zb4 h s)))) fun _=>none
def KU(b off h l m sz:Nat)(ex:Bool):Option zb:=
 ifB (Nat.beq m l)
  (ifB ex (some (.slice b off (Nat.sub h l) (Nat.sub m l) true)) (frc (Nat.add off (Nat.mul l sz)) fun o=>some (.esl b off o)))
  (frc (Nat.add off (Nat.mul l sz)) fun o=>frc (Nat.sub h l) fun n=>frc (Nat.sub m l) fun c=>some (.slice b o n c ex))
def Kt(s:Sl)(sz:Nat)(lo hi mx:Option zb):Option zb:=
 jw mx s.cap s.cap fun m=>jw hi s.len m fun h=>jw lo 0 h fun l=>KU s.b s.off h l m sz (zh mx s.ex fun _=>true)
def zhv(lo hi mx:Option zb):Option zb:=
 jw mx 0 0 fun m=>jw hi 0 m fun h=>jw lo 0 h fun _=>some .nilslice
def zpt(n sz b off:Nat)(lo hi mx:Option zb):Option zb:=
 jw mx n n fun m=>jw hi n m fun h=>jw lo 0 h fun l=>KU b off h l m sz true
def isZ(o:Option zb):Bool:=zh o true fun v=>zh (Wv v) false fun i=>zah i (.ofNat 0)
def zps(b:Nat)(v:zb)(lo hi mx:Option zb):Option zb:=
 ifB (isZ lo) (zh mx (zh hi (some (.osl b v)) fun _=>none) fun _=>zh hi none fun _=>ifB (zn (isZ mx) (isZ hi)) (some (.slice b 0 0 0 true)) none) none
def zfo(v:zb):Option Nat:=match v with|.sym i=>some i|_=>none
def zqT(q:Nat)(f:Fact):Option (Nat×Nat):=match f with|.num p lo hi=>ifB (Nat.beq q p) (some (lo,hi)) none|_=>none
def zqW(q m:Nat)(f:Fact):Option Nat:=match f with|.diff p k r=>ifB (zn (Nat.beq q p) (Nat.beq m k)) (some r) none|_=>none
def zhu(E:Env)(s:Sl)(lo hi mx:Option zb):Option zb:=
 zh mx (bnd hi fun h=>bnd (zfo h) fun q=>bnd (findF (zqT q) E.facts) fun n=>ifB (zn (isZ lo) (zn (blt 0 s.cap) (Nat.ble n.2 s.cap))) (some (.psl s.b s.off q s.cap s.ex)) none) fun _=>none
def zcc(E:Env)(p:Psl)(sz:Nat)(lo hi mx:Option zb):Option zb:=
 zh mx
  (zh hi
   (ifB (zn (isZ lo) (blt 0 p.c)) (some (.psl p.b p.o p.q p.c p.ex))
    (bnd lo fun l=>bnd (Wv l) fun i=>We i fun m=>bnd (findF (zqT p.q) E.facts) fun n=>ifB (zn (blt m p.c) (Nat.ble m n.1))
     (bnd (findF (zqW p.q m) E.facts) fun q=>frc (Nat.add p.o (Nat.mul m sz)) fun o=>frc (Nat.sub p.c m) fun c=>some (.psl p.b o q c p.ex)) none))
   fun h=>jw (some h) 0 p.c fun k=>jw lo 0 k fun l=>KU p.b p.o k l p.c sz p.ex)
  fun _=>none
def zht(E:Env)(x:zb)(lo hi mx:Option zb):Option zb:=
 zh mx (ifB (isZ lo) (bnd hi fun h=>findF (zqO x h) E.facts) none) fun _=>none
def zvg(E:Env)(t:TypeId)(x:zb)(lo hi mx:Option zb):Option zb:=
 bnd (E.desc t) fun d=>
  zh (j8 d)
   (zh (Qp d)
    (ifB (kF d) (zh (jm x) (zjJ E x lo hi mx) fun s=>zpr s lo hi mx) none)
    fun q=>bnd (E.size q.2) fun sz=>bnd (Yg x) fun p=>zpt q.1 sz p.1 p.2 lo hi mx)
   fun e=>bnd (E.size e) fun sz=>zh (kN x) (ifB (ke x) (zhv lo hi mx) (zh (QQ x) (zh (zfp x) (zht E x lo hi mx) fun p=>zcc E p sz lo hi mx) fun p=>zps p.1 p.2 lo hi mx)) fun s=>zh (bnd hi zfo) (Kt s sz lo hi mx) fun _=>zhu E s lo hi mx
def zqg(hi mx:Option zb):Bool:=zh mx true fun _=>zh hi false fun _=>true
def zse(E:Env)(t:TypeId)(x:zb)(lo hi mx:Option zb):Option zb:=
 ifB (zqg hi mx) (zvg E t x lo hi mx) none
def yU(H:Heap)(sz:Nat)(x:zb):Option (Nat×List zb):=
 zh (kN x)
  (zh (jm x) (ifB (ke x) (some (0,[])) none) fun s=>some (qS s 0,mapA u8 s))
  fun s=>bnd (H.kM s.b s.off (Nat.mul s.len sz)) fun l=>some (s.len,l)
def roomy(n bytes:Nat):Bool:=zn (Nat.ble (Nat.mul n bytes) 1000000000) (Nat.ble n 1000000000)
def QZ(H:Heap)(e:TypeId)(n:Nat)(l:List zb):R:=ifB (Q0 yS l) (frc n fun n=>zkw H e l fun m=>.slice m 0 n n false) none
def ZW(H:Heap)(e:TypeId)(sz:Nat)(s:Sl)(n:Nat)(new:List zb):R:=
 bnd (H.row s.b) fun r=>bnd (Tr.JX (Nat.mul s.len sz) r.c s.off) fun old=>
  ifB s.ex (QZ H e (Nat.add s.len n) (zP old new))
   (ifB (zn (Nat.ble 100 s.b) (zn (Nat.beq r.t e) (zn (Nat.beq (Nat.mod s.off sz) 0) (Nat.beq (Nat.add s.off (Nat.mul s.cap sz)) r.n)))) (QZ ⟨H.blk.del s.b,H.next⟩ e (Nat.add s.len n) (zP old new)) none)
def tight(t:Tr zb):Nat->Bool:=
 Tr.rec (motive:=fun _=>Nat->Bool) (fun n=>Nat.beq n 0)
  (fun _ v _ il ir n=>qW n false fun m=>zh v false fun a=>ifB (yS a) (frc (Nat.div (Nat.succ m) 2) fun p=>frc (Nat.div m 2) fun q=>ifB (il p) (ir q) false) false) t
def zbV(H:Heap)(e:TypeId)(n N:Nat)(c:Tr zb)(new:List zb):R:=
 ifB (Q0 yS new) (frc n fun n=>frc H.next fun m=>frc (Nat.add N (qS new 0)) fun k=>some (.slice m 0 n n false,⟨H.blk.set m (.cells e k (Tr.zns new c N)),Nat.succ m⟩)) none
def zgH(H:Heap)(e:TypeId)(sz:Nat)(s:Sl)(n:Nat)(new:List zb):R:=
 bnd (H.row s.b) fun r=>frc (Nat.mul s.len sz) fun N=>ifB (zn (Nat.beq s.off 0) (tight r.c N))
  (ifB s.ex (zbV H e (Nat.add s.len n) N r.c new)
   (ifB (zn (Nat.ble 100 s.b) (zn (Nat.beq r.t e) (zn (Nat.beq (Nat.mod s.off sz) 0) (Nat.beq (Nat.add s.off (Nat.mul s.cap sz)) r.n)))) (zbV ⟨H.blk.del s.b,H.next⟩ e (Nat.add s.len n) N r.c new) none))
  (ZW H e sz s n new)
def zsj(H:Heap)(sz:Nat)(s:Sl)(n:Nat)(new:List zb):R:=
 bnd (H.Jv s.b (Nat.add s.off (Nat.mul s.len sz)) new) fun H'=>frc (Nat.add s.len n) fun m=>some (.slice s.b s.off m s.cap s.ex,H')
def yi(E:Env)(e:TypeId)(sz:Nat):Bool:=zh (E.zero e) false fun z=>Nat.beq (qS (zO z) 0) sz
def zau(E:Env)(H:Heap)(e:TypeId)(i:TypeInfo)(s:zb)(n:Nat)(new:List zb):R:=
 zh (kN s)
  (ifB (ke s) (qW n (some (.nilslice,H)) fun _=>ifB (zn (yi E e i.size) (roomy n i.bytes)) (QZ H e n new) none) none)
  fun q=>ifB (Nat.ble (Nat.add q.len n) q.cap) (zsj H i.size q n new)
   (ifB (zn (yi E e i.size) (roomy (Nat.add q.len n) i.bytes)) (ZW H e i.size q n new) none)
def zsi(E:Env)(H:Heap)(e:TypeId)(i:TypeInfo)(s:zb)(n:Nat)(new:List zb):R:=
 zh (kN s)
  (ifB (ke s) (qW n (some (.nilslice,H)) fun _=>ifB (zn (yi E e i.size) (roomy n i.bytes)) (QZ H e n new) none) none)
  fun q=>ifB (Nat.ble (Nat.add q.len n) q.cap) (zsj H i.size q n new)
   (ifB (zn (yi E e i.size) (roomy (Nat.add q.len n) i.bytes)) (zgH H e i.size q n new) none)
def isInt(d:TypeDesc):Bool:=match d with|.int _=>true|_=>false
def zoJ(E:Env)(e:TypeId)(i:TypeInfo)(x:zb):Option (Nat×List zb):=
 bnd (asInt x) fun q=>ifB (Wi q.1) (We q.2 fun n=>ifB (roomy n i.bytes)
  (bnd (E.zero e) fun z=>ifB (Nat.beq (qS (zO z) 0) i.size) (some (n,Q9 (zO z) n)) none) none) none
def Uu(v:zb):Option Nat:=bnd (asInt v) fun p=>ifB (zgf p.1) (We p.2 fun n=>ifB (blt n 256) (some n) none) none
def QP(l:List zb):Option (List Nat):=YU Uu l
def pkL(H:Heap)(q:Sl):Option (List Nat):=
 bnd (H.blk.get q.b) fun b=>bnd (zgA b) fun p=>ifB (Nat.ble (Nat.add q.off q.len) p.n) (frc (Y7 p.N q.off q.len) fun N=>some (unpL q.len N)) none
def Y6(E:Env)(H:Heap)(x:zb):Option zb:=
 zh (QQ x)
  (zh (kN x)
   (ifB (ke x) (some (.str [])) (ifB (Ya x) (bnd (findF (zd8 x) E.facts) fun _=>some x) (bnd (jm x) fun _=>some x)))
   fun s=>zh (pkL H s) (ifB (Nat.beq s.len 0) (some (.str [])) (bnd (H.kM s.b s.off s.len) fun cs=>zh (QP cs) (findF (zmn cs) E.facts) fun l=>some (.str l))) fun l=>some (.str l))
  fun p=>bnd (H.blk.get p.1) fun b=>bnd (zas b) fun q=>ifB (qs q.2 p.2) (some p.2) none
def Uc(v:zb):Bool:=zh (jm v) false fun s=>lC s true fun _ _=>false
def zu4(E:Env)(a b:zb):Option zb:=
 ifB (Uc a) (some b) (zh (jm a) (findF (zcS .add a b) E.facts) fun s=>zh (jm b) (findF (zcS .add a b) E.facts) fun t=>some (.str (zP s t)))
def zhr(E:Env)(v:zb):Bool:=zh (jm v) (zh (findF (mEq 2 v (.str [])) E.facts) false kI) fun s=>lC s false fun _ _=>true
def zfN(E:Env)(v:zb):Bool:=
 zh (jm v) (zh (findF (zd8 v) E.facts) false fun l=>zh (asInt l) (zh (findF (zcS .gtr l (.int .i64 (.ofNat 1000000000))) E.facts) false fun r=>zh (asBool r) false kI) fun p=>kI (ilt (.ofNat 1000000000) p.2)) fun s=>Nat.ble (qS s 0) 1000000000
def zwG(H:Heap)(e:TypeId)(c:zb):R:=frc H.next fun m=>some (.osl m c,⟨H.blk.set m (.text e c),Nat.succ m⟩)
def zmN(H:Heap)(e:TypeId)(s:zb):Option Heap:=
 zh (QQ s)
  (zh (kN s) (ifB (ke s) (some H) none)
   fun q=>ifB q.ex (ifB (Nat.beq q.len q.cap) (some H) none)
    (bnd (H.row q.b) fun r=>ifB (zn (Nat.ble 100 q.b) (zn (Nat.beq r.t e) (zn (Nat.beq q.off 0) (Nat.beq q.cap r.n)))) (some ⟨H.blk.del q.b,H.next⟩) none))
  fun p=>bnd (H.blk.get p.1) fun b=>bnd (zas b) fun q=>ifB (zn (Nat.ble 100 p.1) (Nat.beq q.1 e)) (some ⟨H.blk.del p.1,H.next⟩) none
def zxy(E:Env)(H:Heap)(e:TypeId)(s x:zb):R:=
 bnd (E.desc e) fun d=>bnd (Wo d) fun k=>bnd (E.types.get e) fun i=>ifB (zn (zgf k) (zn (Nat.beq i.size 1) (zn (Nat.beq i.bytes 1) (yi E e 1))))
  (bnd (Y6 E H s) fun a=>bnd (Y6 E H x) fun b=>bnd (zmN H e s) fun H'=>ifB (Uc b) (some (s,H))
   (ifB (zhr E b) (bnd (zu4 E a b) fun c=>ifB (zfN E c) (zwG H' e c) none) none)) none
def zgC(b:zo):Option (TypeId×zb):=zo.rec (fun _ _ _=>none) (fun _ _=>none) (fun _ _ _ _ _ _ _ _=>none) (fun _ _=>none) (fun _ _=>none) (fun _ _ _=>none) (fun t v=>some (t,v)) (fun _=>none) b
def zj4(E:Env)(v:zb):Bool:=
 zh (jm v) (zh (findF (zd8 v) E.facts) false fun l=>zh (findF (zcS .gtr l (.int .i64 (.ofNat 100000000))) E.facts) false fun r=>zh (asBool r) false kI) fun s=>Nat.ble (qS s 0) 100000000
def zyo(H:Heap)(e:TypeId)(c:zb):R:=frc H.next fun m=>some (.osl m c,⟨H.blk.set m (.ints e c),Nat.succ m⟩)
def zA4(E:Env)(H:Heap)(e:TypeId)(s x:zb):R:=
 bnd (E.desc e) fun d=>bnd (Wo d) fun k=>bnd (E.types.get e) fun i=>ifB (zn (Wi k) (zn (Nat.beq i.size 1) (zn (Nat.ble i.bytes 8) (yi E e 1))))
  (bnd (kN s) fun q=>ifB (zn q.ex (Nat.beq q.cap 0)) (bnd (QQ x) fun p=>bnd (H.blk.get p.1) fun b=>bnd (zgC b) fun r=>
   ifB (zn (qs r.2 p.2) (zn (zhr E p.2) (zj4 E p.2))) (zyo H e p.2) none) none) none
def zrb(_:Heap)(x:zb):Bool:=ifB (Ya x) true (zh (QQ x) false fun _=>true)
def zax(E:Env)(H:Heap)(sT xT:TypeId)(s x:zb):R:=
 bnd (E.desc sT) fun d=>bnd (j8 d) fun e=>bnd (E.desc xT) fun xd=>
  (bnd (E.types.get e) fun i=>bnd (ifB (isInt xd) (zoJ E e i x) (yU H i.size x)) fun p=>ifB (Nat.beq (qS p.2 0) (Nat.mul p.1 i.size)) (zau E H e i s p.1 p.2) none)
def zjq(E:Env)(H:Heap)(sT xT:TypeId)(s x:zb):R:=
 bnd (E.desc sT) fun d=>bnd (j8 d) fun e=>bnd (E.desc xT) fun xd=>
  (bnd (E.types.get e) fun i=>bnd (ifB (isInt xd) (zoJ E e i x) (yU H i.size x)) fun p=>ifB (Nat.beq (qS p.2 0) (Nat.mul p.1 i.size)) (zsi E H e i s p.1 p.2) none)
def pvS(H:Heap)(q:Sl):Option (Nat×Nat):=
 bnd (H.blk.get q.b) fun b=>zh (zgA b)
  (bnd (H.kM q.b q.off q.len) fun l=>bnd (QP l) fun bs=>some (q.len,XL bs 0 0))
  fun p=>ifB (Nat.ble (Nat.add q.off q.len) p.n) (some (q.len,Y7 p.N q.off q.len)) none
def pv(H:Heap)(x:zb):Option (Nat×Nat):=
 zh (kN x) (ifB (ke x) (some (0,0)) (bnd (jm x) fun s=>some (qS s 0,XL s 0 0))) fun q=>pvS H q
def KF(H:Heap)(e:TypeId)(n N:Nat):R:=frc n fun n=>frc N fun N=>frc H.next fun m=>some (.slice m 0 n n false,⟨H.blk.set m (.pack e n N),Nat.succ m⟩)
def zp7(H:Heap)(q:Sl)(m M:Nat):R:=
 bnd (H.blk.get q.b) fun b=>bnd (zgA b) fun p=>frc (Nat.add q.off q.len) fun o=>ifB (zn (Nat.ble 100 q.b) (Nat.ble (Nat.add o m) p.n))
  (frc (zao o (Y7 p.N 0 o) (zao m M (Nat.shiftRight p.N (Nat.mul 8 (Nat.add o m))))) fun N=>frc (Nat.add q.len m) fun l=>some (.slice q.b q.off l q.cap q.ex,⟨H.blk.set q.b (.pack p.t p.n N),H.next⟩)) none
def zkh(H : Heap)(e : TypeId)(s : zb)(p : Nat × Nat) : R :=
    zh (kN s) (ifB (ke s) (qW p.1 none fun _ => ifB (roomy p.1 1) (KF H e p.1 p.2) none) none)
      fun q => ifB (Nat.ble (Nat.add q.len p.1) q.cap) (zp7 H q p.1 p.2)
        (ifB (roomy (Nat.add q.len p.1) 1) (bnd (pvS H q) fun a => frc (zao q.len a.2 p.2) fun N => ifB q.ex (KF H e (Nat.add q.len p.1) N)
          (bnd (H.row q.b) fun r => ifB (zn (Nat.ble 100 q.b) (zn (Nat.beq r.t e) (Nat.beq (Nat.add q.off q.cap) r.n))) (KF ⟨H.blk.del q.b, H.next⟩ e (Nat.add q.len p.1) N) none)) none)
def pvN(E:Env)(e:TypeId)(x:zb):Option (Nat×Nat):=
 bnd (asInt x) fun q=>ifB (Wi q.1) (We q.2 fun n=>ifB (roomy n 1) (bnd (E.zero e) fun z=>ifB (qs z (u8 0)) (some (n,0)) none) none) none
def zfZ(E:Env)(H:Heap)(sT xT:TypeId)(s x:zb):R:=
 bnd (E.desc sT) fun d=>bnd (j8 d) fun e=>bnd (E.desc xT) fun xd=>bnd (E.types.get e) fun i=>bnd (E.desc e) fun ed=>bnd (Wo ed) fun k=>
  ifB (zn (zgf k) (zn (Nat.beq i.size 1) (zn (Nat.beq i.bytes 1) (yi E e 1)))) (bnd (ifB (isInt xd) (pvN E e x) (pv H x)) fun p=>zkh H e s p) none
def zgO(E:Env)(H:Heap)(sT xT:TypeId)(s x:zb):R:=
 ifB (zn (kI (zrb H s)) (kI (zrb H x))) (zh (zfZ E H sT xT s x) (zjq E H sT xT s x) some)
  (bnd (E.desc sT) fun d=>bnd (j8 d) fun e=>bnd (E.desc xT) fun xd=>ifB (isInt xd) none (zh (zxy E H e s x) (zA4 E H e s x) some))
def znS(a b:Nat):Nat:=ifB (Nat.ble a b) a b
def zv3(E:Env)(H:Heap)(dT:TypeId)(d x:zb):R:=
 bnd (E.desc dT) fun t=>bnd (j8 t) fun e=>bnd (E.size e) fun sz=>bnd (yU H sz x) fun p=>
  ifB (Nat.beq (qS p.2 0) (Nat.mul p.1 sz)) (zh (kN d) (ifB (ke d) (some (mkNat 0,H)) none) fun q=>
   bnd (H.Jv q.b q.off (zb4 (Nat.mul (znS p.1 q.len) sz) p.2)) fun H'=>some (mkNat (znS p.1 q.len),H')) none
def zwX(H:Heap)(x:zb):Option zb:=bnd (zjb x) fun r=>bnd (H.blk.get r) fun b=>bnd (zgB b) fun m=>some (mkNat (qS m.1 0))
def Ub(v:zb):Bool:=match v with|.nilmap=>true|_=>false
def zy1(E:Env)(H:Heap)(d:TypeDesc)(x:zb):Option zb:=
 zh (Qp d)
  (zh (zom d) (bnd (zkZ d) fun a=>bnd (E.desc a) fun d=>bnd (Qp d) fun q=>some (mkNat q.1))
   fun _=>ifB (Ub x) (some (mkNat 0)) (zwX H x))
  fun q=>some (mkNat q.1)
def zA6(E:Env)(H:Heap)(t:TypeId)(x:zb):Option zb:=
 bnd (E.desc t) fun d=>zh (j8 d) (ifB (kF d) (zh (jm x) (findF (zd8 x) E.facts) fun s=>some (mkNat (qS s 0))) (zy1 E H d x))
  fun _=>zh (kN x) (ifB (ke x) (some (mkNat 0)) (ifB (zvQ x) (some (mkNat 0)) (zh (QQ x) (zh (zfp x) (findF (zqQ x) E.facts) fun p=>some (.sym p.q)) fun p=>zh (jm p.2) (findF (zd8 p.2) E.facts) fun s=>some (mkNat (qS s 0))))) fun s=>some (mkNat s.len)
def zA9(E:Env)(t:TypeId)(x:zb):Option zb:=
 bnd (E.desc t) fun d=>bnd (j8 d) fun _=>zh (kN x) (ifB (ke x) (some (mkNat 0)) none) fun s=>some (ifB s.ex (mkNat s.cap) (.capv s.b s.cap))
def zxz(l:List zb):zb->Option zb:=
 List.rec (motive:=fun _=>zb->Option zb) some
  (fun b _ ih a=>bnd (asInt a) fun p=>bnd (asInt b) fun q=>ih (.int p.1 (ifB (ilt q.2 p.2) q.2 p.2))) l
def zxA(l:List zb):zb->Option zb:=
 List.rec (motive:=fun _=>zb->Option zb) some
  (fun b _ ih a=>bnd (asInt a) fun p=>bnd (asInt b) fun q=>ih (.int p.1 (ifB (ilt p.2 q.2) q.2 p.2))) l
def zsp(E:Env)(H:Heap)(t:TypeId)(x:zb):R:=
 bnd (E.desc t) fun d=>bnd (j8 d) fun e=>zh (kN x) (ifB (ke x) (some (jf,H)) none) fun q=>
  qW q.len (some (jf,H)) fun _=>bnd (E.zero e) fun z=>bnd (H.Jv q.b q.off (Q9 (zO z) q.len)) fun H'=>some (jf,H')
def Kg(H:Heap)(x:zb):R:=
 zh (kN x) (ifB (ke x) (some (.nilp,H)) none) fun s=>qW s.cap none fun _=>some (.ptr s.b s.off,H)
def zgP(E:Env)(H:Heap)(pt:TypeId)(p:zb)(n:Nat):R:=
 qW n (ifB (zkE p) (some (.str [],H)) (bnd (Yg p) fun _=>some (.str [],H))) fun _=>
  bnd (Yg p) fun q=>bnd (E.desc pt) fun d=>bnd (zkZ d) fun u=>bnd (E.size u) fun s=>bnd (H.row q.1) fun r=>
   ifB (zn (Nat.ble 100 q.1) (zn (Nat.beq s 1) (zn (Nat.beq r.t u) (Nat.ble (Nat.add q.2 n) r.n))))
    (bnd (Tr.JX n r.c q.2) fun cs=>bnd (Ut cs) fun l=>some (.str l,⟨H.blk.del q.1,H.next⟩)) none
def l1{α:Type u}{β:Type}(l:List β)(r:Option α):Option α:=lC l r fun _ _=>none
def UD(E:Env)(H:Heap)(b:Builtin)(ts:List TypeId)(args:List zb):R:=
 lC args none fun x r=>lC ts none fun t us=>
  match b with
  | .append=>lC r none fun y q=>lC us none fun u vs=>l1 q (l1 vs (zgO E H t u x y))
  | .copy=>lC r none fun y q=>l1 q (zv3 E H t x y)
  | .len=>Z7 H (zA6 E H t x)
  | .cap=>Z7 H (zA9 E t x)
  | .min=>Z7 H (zh (zxz r x) (lC r none fun y q=>l1 q (findF (zwT x y) E.facts)) some)
  | .max=>Z7 H (zh (zxA r x) (lC r none fun y q=>l1 q (findF (zwU x y) E.facts)) some)
  | .clear=>l1 r (zsp E H t x)
  | .unsafeSliceData=>l1 r (Kg H x)
  | .unsafeString=>lC r none fun y q=>lC us none fun _ vs=>l1 q (l1 vs (bnd (asInt y) fun p=>ifB (Wi p.1) (We p.2 fun n=>ifB (Nat.ble n 1000000000) (zgP E H t x n) none) none))
  | _=>none
def zCQ(k:IntKind)(x:zb)(H:Heap):R:=bnd (Wv x) fun n=>some (mkInt k (Zi k n),H)
def zhA(E:Env)(e:TypeId):Bool:=zh (E.size e) false fun s=>Nat.beq s 1
def zlf(E:Env)(H:Heap)(e:TypeId)(s:List Nat):R:=
 bnd (E.desc e) fun d=>bnd (Wo d) fun k=>ifB (zn (zgf k) (zhA E e)) (frc (qS s 0) fun n=>zkw H e (mapA u8 s) fun m=>.slice m 0 n n false) none
def zmV(E:Env)(H:Heap)(e:TypeId)(x:zb):R:=
 bnd (E.desc e) fun d=>bnd (Wo d) fun k=>ifB (zgf k)
  (zh (kN x) (ifB (ke x) (some (.str [],H)) (bnd (QQ x) fun _=>bnd (Y6 E H x) fun v=>some (v,H))) fun s=>zh (pkL H s) (bnd (H.kM s.b s.off s.len) fun cs=>bnd (Ut cs) fun l=>some (.str l,H)) fun l=>some (.str l,H)) none
def zfl(E:Env)(H:Heap)(t:TypeId)(x:zb):R:=
 bnd (Yg x) fun p=>bnd (E.size t) fun s=>bnd (H.row p.1) fun r=>qW s none fun _=>ifB (blt p.2 r.n) (some (x,H)) none
def zbi(E:Env)(H:Heap)(u:TypeId)(x:zb):R:=
 bnd (Yg x) fun p=>bnd (E.size u) fun s=>bnd (H.row p.1) fun r=>qW s none fun _=>
  ifB (zn (Nat.beq r.t u) (zn (Nat.beq (Nat.mod p.2 s) 0) (Nat.ble (Nat.add p.2 s) r.n))) (some (x,H)) none
def zCP(E:Env)(H:Heap)(dd:TypeDesc)(x:zb):R:=
 bnd (jm x) fun s=>ifB (kF dd) (some (x,H)) (bnd (j8 dd) fun e=>zlf E H e s)
def zle(E:Env)(H:Heap)(sd dd:TypeDesc)(x:zb):R:=
 zh (j8 sd)
  (zh (zkZ sd) (ifB (zgs sd) (bnd (zkZ dd) fun u=>zbi E H u x) none)
   fun t=>ifB (zgs dd) (zfl E H t x) none)
  fun e=>ifB (kF dd) (zmV E H e x) none
def zjn(E:Env)(H:Heap)(src dst:TypeId)(x:zb):R:=
 bnd (E.desc dst) fun dd=>bnd (E.desc src) fun sd=>
  zh (asInt x) (ifB (kF sd) (zCP E H dd x) (zle E H sd dd x)) fun _=>bnd (Wo dd) fun k=>zCQ k x H
def zlR(E:Env)(H:Heap)(src dst:TypeId)(x:zb):R:=
 bnd (E.desc dst) fun dd=>bnd (E.desc src) fun sd=>zh (Wo dd) (ifB (kF sd) (bnd (findF (zd8 x) E.facts) fun _=>ifB (kF dd) (some (x,H)) (bnd (j8 dd) fun e=>bnd (E.desc e) fun d=>bnd (Wo d) fun k=>ifB (zn (zgf k) (zhA E e)) (zwG H e x) none)) none)
  fun k=>ifB (isInt sd) (bnd (findF (zqY k x) E.facts) fun r=>some (r,H)) none
abbrev UI:=List (zb×zb×Nat)
def kl(v:zb):Bool:=match v with|.bool _=>true|.int _ _=>true|.str _=>true|_=>false
def zaV(v:zb):Bool:=match v with|.agg l=>Q0 kl l|v=>kl v
def zmu(E:Env)(H:Heap)(t:TypeId)(k x:zb):Option Bool:=
 zh (jm k) (Yu E H 10000 t k x) fun a=>bnd (jm x) fun b=>some (zea a b)
def zml(E:Env)(H:Heap)(t:TypeId)(k:zb)(es:UI):Option (Option zb):=
 List.rec (some none) (fun e _ ih=>bnd (zmu E H t k e.1) fun r=>ifB (qs k e.1) (ifB r (some (some e.2.1)) none) (ifB r none ih)) es
def zts(k:zb)(v:zb)(es:UI):UI:=List.rec [] (fun e l ih=>ifB (qs k e.1) ((e.1,v,e.2.2)::l) (e::ih)) es
def Heap.zxm(H:Heap)(x:zb):Option UI:=ifB (Ub x) (some []) (bnd (zjb x) fun r=>bnd (H.blk.get r) fun b=>bnd (zgB b) fun m=>some m.1)
def Wc(ok:Bool)(v:zb)(is:Bool):zb:=ifB ok (.tuple [v,.bool is]) v
def Y9(E:Env)(t:TypeId):Bool:=zh (E.desc t) false fun d=>ifB (kF d) true (zh (Wo d) false fun _=>true)
def YJ(E:Env)(l:List zb)(fs:List Field):Bool:=
 List.rec true (fun f _ ih=>zn (zn (Y9 E f.type) (zh (E.apart f.type l f.offset) false kl)) ih) fs
def K0(E:Env)(e:TypeId)(s:Nat)(l:List zb)(is:List Nat):Bool:=
 List.rec true (fun i _ ih=>zn (zh (E.apart e l (Nat.mul i s)) false kl) ih) is
def zkC(E:Env)(l:List zb)(q:Nat×TypeId):Bool:=zn (Y9 E q.2) (zh (E.size q.2) false fun s=>K0 E q.2 s l (List.range q.1))
def WT(E:Env)(d:TypeDesc)(k:zb):Bool:=
 match k with
 | .str _=>kF d
 | .int _ _=>zh (Wo d) false fun _=>true
 | .agg l=>zn (Q0 kl l) (zh (ZS d) (zh (Qp d) false fun q=>zkC E l q) fun fs=>YJ E l fs)
 | _=>false
def zm4(E:Env)(H:Heap)(t:TypeId)(x k:zb)(ok:Bool):Option zb:=
 bnd (E.desc t) fun d=>bnd (zom d) fun q=>bnd (E.desc q.1) fun kd=>ifB (WT E kd k)
  (bnd (H.zxm x) fun es=>bnd (zml E H q.1 k es) fun f=>zh f (bnd (E.zero q.2) fun z=>some (Wc ok z false)) fun v=>some (Wc ok v true)) none
def zqI(H:Heap)(r:Nat)(k:zb)(v:zb)(es:UI)(c:Nat)(f:Option zb):Heap:=
 zh f ⟨H.blk.set r (.map (zP es [(k,v,c)]) (Nat.succ c)),H.next⟩ fun _=>⟨H.blk.set r (.map (zts k v es) c),H.next⟩
def zdN(E:Env)(H:Heap)(t:TypeId)(m k v:zb):Option Heap:=
 bnd (E.desc t) fun d=>bnd (zom d) fun q=>bnd (E.desc q.1) fun kd=>ifB (WT E kd k)
  (bnd (zjb m) fun r=>bnd (H.blk.get r) fun b=>bnd (zgB b) fun p=>ifB (Nat.ble 100 r) (bnd (zml E H q.1 k p.1) fun f=>some (zqI H r k v p.1 p.2 f)) none) none
def yQ{α:Type}(N d id:Nat)(f:Nat->α):α:=ifB (blt id N) (f id) (frc (Nat.add d (Nat.sub id N)) f)
def shV(N d:Nat)(v:zb):zb:=
 @zb.rec (fun _=>zb) (fun _=>List zb)
  (fun b=>.bool b) (fun k n=>.int k n) (fun s=>.str s) .nilp (fun b o=>yQ N d b fun m=>.ptr m o) .nilslice (fun b o l c x=>yQ N d b fun m=>.slice m o l c x) .nilmap (fun r=>yQ N d r fun m=>.map m)
  (fun f _ _ l m=>.fn f l m) (fun l=>yQ N d l fun m=>.yieldf m) (fun b c=>yQ N d b fun m=>.capv m c) .nilfn (fun t _ v=>.iface t v) .niliface (fun _ l=>.agg l) (fun _ l=>.tuple l) (fun i=>yQ N d i fun m=>.sym m) (fun b o q=>yQ N d b fun m=>.esl m o q) (fun b _ v=>yQ N d b fun m=>.osl m v) (fun b o q c x=>yQ N d b fun m=>yQ N d q fun p=>.psl m o p c x)
  [] (fun _ _ a l=>a::l) v
def YF{α β:Type}(f:α->β)(t:Tr α):Tr β:=Tr.rec .nil (fun _ v _ l r=>.node l (bnd v fun a=>some (f a)) r) t
def shB(N d:Nat)(b:zo):zo:=
 zo.rec (fun t n c=>.cells t n (YF (shV N d) c)) (fun es c=>.map (mapA (fun e=>(e.1,shV N d e.2.1,e.2.2)) es) c) (fun a b c e f g h i=>.loop a b c e f g h i) (fun s p=>.siter s p) (fun t v=>.text t (shV N d v)) (fun t n N=>.pack t n N) (fun t v=>.ints t (shV N d v)) (fun c=>.view (YF (shV N d) c)) b
def Jb(N d:Nat)(rows:List (Nat×zo)):Tr zo->Tr zo:=
 List.rec (motive:=fun _=>Tr zo->Tr zo) (fun t=>t) (fun p _ ih t=>yQ N d p.1 fun m=>ih (t.set m (shB N d p.2))) rows
def zib(g:FuncId)(as:List zb)(f:Fact):Option (Nat×Nat×List (Nat×zo)×zb):=
 match f with|.make h bs N n rows r=>ifB (zn (Nat.beq g h) (kv as bs)) (some (N,n,rows,r)) none|.makeF p=>p g as|_=>none
def zoW(H:Heap)(N n:Nat)(rows:List (Nat×zo))(r:zb):R:=
 ifB (Nat.ble N H.next) (frc H.next fun d=>frc (Nat.add d n) fun m=>some (shV N d r,⟨Jb N d rows H.blk,m⟩)) none
def zbY(args:List zb)(H:Heap):R:=
 lC args none fun a q=>l1 q (bnd (zgD a) fun p=>bnd (zjb p.2) fun r=>bnd (H.blk.get r) fun b=>bnd (zgB b) fun m=>
  frc H.next fun n=>some (.iface p.1 (.map n),⟨H.blk.set n (.map m.1 m.2),Nat.succ n⟩))
def zdu(c:Nat)(s:List Nat):Nat:=List.rec 0 (fun b _ ih=>ifB (Nat.beq b c) (Nat.succ ih) ih) s
def zoX(args:List zb)(H:Heap):R:=
 lC args none fun a r=>lC r none fun b q=>l1 q (bnd (jm a) fun s=>bnd (W9 b) fun c=>some (mkInt .i64 (.ofNat (zdu c s)),H))
def Ul(c:Nat)(s:List Nat):Nat->Int:=
 List.rec (motive:=fun _=>Nat->Int) (fun _=>.negSucc 0) (fun b _ ih i=>ifB (Nat.beq b c) (.ofNat i) (ih (Nat.succ i))) s
def zb0(args:List zb)(H:Heap):R:=
 lC args none fun a r=>lC r none fun b q=>l1 q (bnd (jm a) fun s=>bnd (W9 b) fun c=>some (mkInt .i64 (Ul c s 0),H))
def zos(l:List Nat):List Nat->Int:=
 List.rec (motive:=fun _=>List Nat->Int) (fun m=>lC m (.ofNat 0) fun _ _=>.negSucc 0)
  (fun a _ ih m=>lC m (.ofNat 1) fun b m=>ifB (blt a b) (.negSucc 0) (ifB (Nat.beq a b) (ih m) (.ofNat 1))) l
def zg4(args:List zb)(H:Heap):R:=
 lC args none fun a r=>lC r none fun b q=>l1 q (bnd (jm a) fun s=>bnd (jm b) fun t=>some (mkInt .i64 (zos s t),H))
def zaC(e:TypeId)(args:List zb)(H:Heap):R:=
 lC args none fun a q=>l1 q (bnd (asInt a) fun p=>ifB (Wi p.1) (We p.2 fun n=>ifB (Nat.ble n 1000000000)
  (frc H.next fun m=>frc n fun n=>some (.slice m 0 n n false,⟨H.blk.set m (.cells e n .nil),Nat.succ m⟩)) none) none)
def zxO(args:List zb)(H:Heap):R:=lC args none fun a q=>l1 q (some (a,H))
end
end
section
universe u
noncomputable section
inductive jk where
 | fail
 | nrm (T:Tr zb) (H:Heap)
 | ex (id:Nat) (T:Tr zb) (H:Heap)
 | ret (T:Tr zb) (H:Heap)
structure Fr where
 n:Nat
 fn:FuncId
 ro:Option Nat
abbrev Rec:=Fr->Code->Tr zb->Heap->jk
abbrev OpF:=Env->Rec->Tr zb->Heap->R
def Yd:OpF:=fun _ _ _ _=>none
def zvR(x:Operand):OpF:=fun _ _ T H=>Z7 H (ev T x)
def zzw(c a b:Operand):OpF:=fun _ _ T H=>bnd (ev T c) fun v=>bnd (asBool v) fun q=>ifB q (Z7 H (ev T a)) (Z7 H (ev T b))
def zxg(t:TypeId):OpF:=fun E _ _ H=>bnd (E.zero t) fun z=>zkw H t (zO z) fun m=>.ptr m 0
def zCk(t:TypeId)(x:Operand):OpF:=fun _ _ T H=>bnd (ev T x) fun v=>ifB (Q0 yS (zO v)) (zkw H t (zO v) fun m=>.ptr m 0) none
def Xp(E:Env)(fs:List Field)(i:Nat):Option (Nat×Nat):=bnd (kY i fs) fun f=>bnd (E.size f.type) fun s=>some (f.offset,s)
def VX(s:Nat)(i:Nat):Option (Nat×Nat):=some (Nat.mul i s,s)
def ze9(place:Nat->Option (Nat×Nat))(total:Nat)(ps:List (Nat×zb)):List zb->Option (List zb):=
 List.rec (motive:=fun _=>List zb->Option (List zb)) some
  (fun p _ ih cs=>bnd (place p.1) fun q=>ifB (zn (Nat.beq (qS (zO p.2) 0) q.2) (Nat.ble (Nat.add q.1 q.2) total)) (ih (J5 q.1 (zO p.2) cs)) none) ps
def UB(E:Env)(fs:List Field):Bool:=List.rec true (fun f _ ih=>zh (E.size f.type) false fun _=>ih) fs
def zli(E:Env)(d:TypeDesc)(z:List zb)(ps:List (Nat×zb)):Option (List zb):=
 zh (ZS d) (bnd (Qp d) fun q=>bnd (E.size q.2) fun s=>ze9 (VX s) (qS z 0) ps z) fun fs=>ifB (UB E fs) (ze9 (Xp E fs) (qS z 0) ps z) none
def zxe(t:TypeId)(parts:Array (Nat×Operand)):OpF:=fun E _ T H=>
 bnd (E.zero t) fun z=>bnd (zgr T parts.toList) fun ps=>bnd (E.desc t) fun d=>bnd (zli E d (zO z) ps) fun l=>some (.agg l,H)
def ziF(t:TypeId)(len:Nat)(parts:Array (Nat×Operand)):OpF:=fun E _ T H=>
 bnd (E.desc t) fun d=>bnd (j8 d) fun e=>bnd (zgr T parts.toList) fun ps=>bnd (E.size e) fun s=>bnd (E.zero e) fun z=>
  ifB (zn (Nat.ble (Nat.mul len s) 16777216) (Nat.beq (qS (zO z) 0) s))
   (bnd (ze9 (VX s) (Nat.mul len s) ps (Q9 (zO z) len)) fun l=>ifB (Q0 yS l) (zkw H e l fun m=>.slice m 0 len len true) none) none
def zzy(t:TypeId)(a:Operand):OpF:=fun E _ T H=>bnd (ev T a) fun v=>bnd (Yg v) fun p=>Z7 H (E.loadVar H t p.1 p.2)
def zw9(t:TypeId)(a x:Operand):OpF:=fun E _ T H=>
 bnd (ev T a) fun v=>bnd (Yg v) fun p=>bnd (ev T x) fun y=>bnd (E.storeVar H t p.1 p.2 y) fun H'=>some (jf,H')
def zn9(x:Operand):OpF:=fun _ _ T H=>bnd (ev T x) fun v=>ifB (isNil v) none (some (v,H))
def zxf(op:BinOp)(t:TypeId)(x y:Operand)(_:TypeId):OpF:=fun E _ T H=>
 bnd (ev T x) fun a=>bnd (ev T y) fun b=>Z7 H (zxC E H op t x y a b)
def unNeg(k:IntKind)(n:Int):zb:=mkInt k (Zi k (zw3 n))
def unXor(k:IntKind)(n:Int):zb:=mkInt k (back k (Nat.xor (Qa k n) (Nat.sub (full k) 1)))
def zlo(op:UnOp)(x:zb):Option zb:=
 match op with
 | .neg=>bnd (asInt x) fun p=>some (unNeg p.1 p.2)
 | .xor=>bnd (asInt x) fun p=>some (unXor p.1 p.2)
 | .not=>bnd (asBool x) fun b=>some (ifB b (.bool false) (.bool true))
 | .plus=>none
def zzv(op:UnOp)(_:TypeId)(x:Operand):OpF:=fun E _ T H=>bnd (ev T x) fun v=>Z7 H (ifB (Ya v) (findF (mUn op v) E.facts) (zlo op v))
def zrs(s d:TypeId)(x:Operand):OpF:=fun E _ T H=>bnd (ev T x) fun v=>ifB (Ya v) (zlR E H s d v) (zjn E H s d v)
def zdb(t:TypeId)(x:Operand):OpF:=fun E _ T H=>bnd (E.desc t) fun d=>ifB (zrT d) none (bnd (ev T x) fun v=>some (.iface t v,H))
def zxi(f:Fn):Option FuncId:=match f with|.func f=>some f|_=>none
def zoa(f:Fn)(first captured:Array Operand):OpF:=fun _ _ T H=>
 bnd (zxi f) fun f=>bnd (evs T first.toList) fun l=>bnd (evs T captured.toList) fun m=>some (.fn f l m,H)
def zrq(t:TypeId)(r:Option Operand):OpF:=fun E _ T H=>
 bnd (zh r (some true) fun o=>bnd (ev T o) fun v=>bnd (asInt v) fun _=>bnd (E.desc t) fun d=>bnd (zom d) fun _=>some true) fun _=>
  frc H.next fun n=>some (.map n,⟨H.blk.set n (.map [] 0),Nat.succ n⟩)
def mkSlice(E:Env)(H:Heap)(e:TypeId)(l c:Nat):R:=
 bnd (E.types.get e) fun i=>bnd (E.zero e) fun z=>
  ifB (zn (Nat.ble (Nat.mul c i.bytes) 1000000000) (zn (Nat.ble l c) (zn (Nat.beq (qS (zO z) 0) i.size) (Nat.ble c 1000000000))))
   (frc l fun l=>frc c fun c=>zkw H e (Q9 (zO z) c) fun m=>.slice m 0 l c true) none
def zzt{α:Type u}(v:zb)(f:Nat->Option α):Option α:=bnd (asInt v) fun p=>ifB (Wi p.1) (We p.2 f) none
def zkK(t:TypeId)(l c:Operand):OpF:=fun E _ T H=>
 bnd (E.desc t) fun d=>bnd (j8 d) fun e=>bnd (ev T l) fun a=>bnd (ev T c) fun b=>zzt a fun l=>zzt b fun c=>mkSlice E H e l c
def zxa(t:TypeId)(x:Operand)(lo hi mx:Option Operand):OpF:=fun E _ T H=>
 bnd (ev T x) fun v=>bnd (evO T lo) fun l=>bnd (evO T hi) fun h=>bnd (evO T mx) fun m=>Z7 H (zse E t v l h m)
def zmJ(E:Env)(b off:Nat)(f:Field):Option zb:=bnd (E.size f.type) fun s=>qW s none fun _=>frc (Nat.add off f.offset) fun o=>some (.ptr b o)
def zkM(s:TypeId)(x:Operand)(f:Nat):OpF:=fun E _ T H=>
 bnd (E.desc s) fun d=>bnd (ZS d) fun fs=>bnd (kY f fs) fun fl=>bnd (ev T x) fun v=>bnd (Yg v) fun p=>Z7 H (zmJ E p.1 p.2 fl)
def zxd(t:TypeId)(x:Operand)(f:Nat):OpF:=fun E _ T H=>
 bnd (E.desc t) fun d=>bnd (ZS d) fun fs=>bnd (kY f fs) fun fl=>bnd (ev T x) fun v=>bnd (asAgg v) fun cs=>Z7 H (E.apart fl.type cs fl.offset)
def zdp(b off i s:Nat):Option zb:=frc (Nat.add off (Nat.mul i s)) fun o=>some (.ptr b o)
def zrk(E:Env)(q:Nat×TypeId)(v:zb)(i:Int):Option zb:=
 bnd (Yg v) fun p=>bnd (E.size q.2) fun s=>inB i q.1 fun i=>zdp p.1 p.2 i s
def ztJ(E:Env)(e:TypeId)(v:zb)(i:Int):Option zb:=
 bnd (E.size e) fun s=>zh (kN v) (bnd (zfp v) fun p=>We i fun n=>bnd (findF (zqT p.q) E.facts) fun m=>ifB (blt n m.1) (zdp p.b p.o n s) none) fun q=>inB i q.len fun i=>zdp q.b q.off i s
def zdO(E:Env)(t:TypeId)(v ix:zb):Option zb:=
 bnd (Wv ix) fun i=>bnd (E.desc t) fun d=>zh (j8 d) (bnd (Qp d) fun q=>zrk E q v i) fun e=>ztJ E e v i
def zkL(t:TypeId)(x ix:Operand):OpF:=fun E _ T H=>bnd (ev T x) fun v=>bnd (ev T ix) fun i=>Z7 H (zdO E t v i)
def zx0(s:List Nat)(i:Int):Option zb:=We i fun n=>bnd (kY n s) fun b=>some (u8 b)
def zrl(E:Env)(q:Nat×TypeId)(v:zb)(i:Int):Option zb:=
 bnd (asAgg v) fun cs=>bnd (E.size q.2) fun s=>inB i q.1 fun i=>E.apart q.2 cs (Nat.mul i s)
def zsn(E:Env)(t:TypeId)(v ix:zb):Option zb:=
 bnd (Wv ix) fun i=>zh (jm v) (bnd (E.desc t) fun d=>bnd (Qp d) fun q=>zrl E q v i) fun s=>bnd (E.desc t) fun d=>ifB (kF d) (zx0 s i) none
def zhj(E:Env)(t:TypeId)(v ix:zb):Option zb:=bnd (Wv ix) fun i=>bnd (E.desc t) fun d=>ifB (kF d) (We i fun n=>findF (mAt v n) E.facts) none
def zxc(t:TypeId)(x ix:Operand):OpF:=fun E _ T H=>bnd (ev T x) fun v=>bnd (ev T ix) fun i=>Z7 H (ifB (Ya v) (zhj E t v i) (zsn E t v i))
def ztQ(t:TypeId)(x k:Operand)(ok:Bool):OpF:=fun E _ T H=>bnd (ev T x) fun v=>bnd (ev T k) fun k=>Z7 H (zm4 E H t v k ok)
def zda(t:TypeId)(m k v:Operand):OpF:=fun E _ T H=>
 bnd (ev T m) fun m=>bnd (ev T k) fun k=>bnd (ev T v) fun v=>bnd (zdN E H t m k v) fun H'=>some (jf,H')
def zxb(t:TypeId)(x:Operand):OpF:=fun E _ T H=>
 bnd (E.desc t) fun d=>ifB (kF d) (bnd (ev T x) fun v=>bnd (jm v) fun s=>frc H.next fun n=>some (.ptr n 0,⟨H.blk.set n (.siter s 0),Nat.succ n⟩)) none
def zc6(H:Heap)(b:Nat)(s:List Nat)(p:Nat):R:=
 zh (kY p s) (some (.tuple [.bool false],H)) fun c=>ifB (blt c 128)
  (frc (Nat.succ p) fun n=>some (.tuple [.bool true,.int .i64 (.ofNat p),.int .i32 (.ofNat c)],⟨H.blk.set b (.siter s n),H.next⟩)) none
def zzx(it:Operand)(str:Bool):OpF:=fun _ _ T H=>
 ifB str (bnd (ev T it) fun v=>bnd (Yg v) fun p=>qW p.2 (bnd (H.blk.get p.1) fun b=>bnd (zxw b) fun q=>ifB (Nat.ble 100 p.1) (zc6 H p.1 q.1 q.2) none) fun _=>none) none
def ziE(x:Operand)(_ ty:TypeId)(ok:Bool):OpF:=fun E _ T H=>
 bnd (E.desc ty) fun d=>ifB (zrT d) none (bnd (ev T x) fun v=>bnd (zgD v) fun p=>ifB (Nat.beq p.1 ty) (some (Wc ok p.2 true,H)) none)
def zrr(t:Operand)(ix:Nat):OpF:=fun _ _ T H=>bnd (ev T t) fun v=>bnd (asTuple v) fun l=>Z7 H (kY ix l)
def zwp(t:Nat):Env->Tr zb->Heap->Option zb:=fun _ T _=>zmK t T
def zsZ(a:Nat)(t:TypeId):Env->Tr zb->Heap->Option zb:=fun E T H=>bnd (T.get a) fun v=>bnd (Yg v) fun p=>E.loadVar H t p.1 p.2
def zm0(r:ResultVar):Env->Tr zb->Heap->Option zb:=@ResultVar.rec (fun _=>Env->Tr zb->Heap->Option zb) zwp zsZ r
def zje(E:Env)(T:Tr zb)(H:Heap)(l:List ResultVar):Option (List zb):=
 List.rec (some []) (fun r _ ih=>bnd (zm0 r E T H) fun a=>bnd ih fun m=>some (a::m)) l
def one(l:List zb):zb:=lC l (.tuple []) fun a m=>lC m a fun _ _=>.tuple l
def leave(E:Env)(fn:Func)(T:Tr zb)(H:Heap):R:=bnd (zje E T H fn.results.toList) fun l=>some (one l,H)
def zia(a b:Nat):Nat:=ifB (Nat.ble a b) b a
def leaves(E:Env)(fn:Func)(r:jk):R:=@jk.rec (fun _=>R) none (fun T H=>leave E fn T H) (fun _ _ _=>none) (fun T H=>leave E fn T H) r
def qj(E:Env)(rec:Rec)(f:FuncId)(args:List zb)(H:Heap):R:=
 bnd (E.funcs.get f) fun fn=>bnd fn.body fun c=>leaves E fn (rec ⟨zia fn.ntmps (qS args 0),f,none⟩ c (Tr.ofList args) H)
def zcy(sz:Nat)(t:TypeId)(r:R):Option (Nat×List zb):=
 bnd r fun r=>bnd (kN r.1) fun s=>bnd (r.2.row s.b) fun w=>
  ifB (zn (Nat.ble 100 s.b) (zn (Nat.beq s.off 0) (zn (Nat.beq w.t t) (zn (ifB s.ex (Nat.ble (Nat.mul s.cap sz) w.n) (Nat.beq (Nat.mul s.cap sz) w.n)) (Nat.ble s.len s.cap)))))
   (bnd (Tr.JX (Nat.mul s.len sz) w.c 0) fun l=>some (s.len,l)) none
def zf3(m:Nat)(v:zb):Bool:=
 match v with
 | .bool _=>true
 | .int _ _=>true
 | .str _=>true
 | .nilp=>true
 | .nilslice=>true
 | .nilmap=>true
 | .nilfn=>true
 | .niliface=>true
 | .ptr b _=>blt b m
 | .slice b _ _ _ ex=>zn ex (blt b m)
 | .map b=>blt b m
 | .sym b=>blt b m
 | _=>false
abbrev zv6:=List zb->Heap->R
def zrg(H:Heap)(s:Sl)(bv:Nat)(t:TypeId)(sz:Nat)(x y:Option (Nat×List zb)):R:=
 bnd x fun p=>bnd y fun q=>ifB (zn (Nat.beq p.1 q.1) (zn (kv p.2 q.2) (Q0 (zf3 H.next) p.2)))
  (some (.slice H.next 0 p.1 p.1 false,⟨((H.blk.del s.b).del bv).set H.next (.cells t (Nat.mul p.1 sz) (Tr.ofList p.2)),Nat.succ H.next⟩)) none
def zw1(E:Env)(run:zv6)(s:Sl)(i:zb)(v:Sl)(H:Heap):R:=
 bnd (H.zuQ s.b) fun r=>bnd (H.zuQ v.b) fun w=>bnd (E.size r.t) fun sz=>
  ifB (zn (zn (Nat.ble 100 s.b) (Nat.ble 100 v.b)) (zn (kI (Nat.beq s.b v.b)) (zn (Nat.beq v.len 1) (Nat.beq (Nat.add s.off (Nat.mul s.cap sz)) r.n))))
   (zrg H s v.b r.t sz
    (zcy sz r.t (run [.slice s.b s.off s.len s.cap true,i,.slice v.b v.off v.len v.cap v.ex]
     ⟨Tr.set (Tr.set (jq E.tabs) s.b (.cells r.t r.n r.c)) v.b (.cells w.t w.n w.c),H.next⟩))
    (zcy sz r.t (run [.slice H.next s.off s.len (Nat.succ s.cap) false,i,.slice v.b v.off v.len v.cap v.ex]
     ⟨Tr.set (Tr.set (jq E.tabs) H.next (.cells r.t (Nat.add r.n sz) r.c)) v.b (.cells w.t w.n w.c),Nat.succ H.next⟩))) none
def zgJ(E:Env)(run:zv6)(args:List zb)(H:Heap):R:=
 lC args none fun a l=>lC l none fun i m=>lC m none fun v q=>l1 q
  (zh (kN a) (run args H) fun s=>ifB s.ex (run args H) (bnd (kN v) fun w=>frc H.next fun n=>zw1 E run s i w ⟨H.blk,n⟩))
def oeq(a b:Option zb):Bool:=zh a (zh b true fun _=>false) fun x=>zh b false fun y=>qs x y
def znj(t:Tr zb):Tr zb->Bool:=
 Tr.rec (motive:=fun _=>Tr zb->Bool) (fun s=>Tr.rec (motive:=fun _=>Bool) true (fun _ _ _ _ _=>false) s)
  (fun _ v _ ihl ihr s=>Tr.rec (motive:=fun _=>Bool) false (fun l v' r _ _=>zn (oeq v v') (zn (ihl l) (ihr r))) s) t
def zkV(es:UI):UI->Bool:=
 List.rec (motive:=fun _=>UI->Bool) (fun m=>lC m true fun _ _=>false)
  (fun e _ ih m=>lC m false fun d m=>zn (zn (qs e.1 d.1) (zn (qs e.2.1 d.2.1) (Nat.beq e.2.2 d.2.2))) (ih m)) es
def Zh(a b:zo):Bool:=
 match a,b with
 | .cells t n c,.cells t' n' c'=>zn (Nat.beq t t') (zn (Nat.beq n n') (znj c c'))
 | .pack t n N,.pack t' n' N'=>zn (Nat.beq t t') (zn (Nat.beq n n') (Nat.beq N N'))
 | .map es k,.map es' k'=>zn (zkV es es') (Nat.beq k k')
 | .text t v,.text t' v'=>zn (Nat.beq t t') (qs v v')
 | .ints t v,.ints t' v'=>zn (Nat.beq t t') (qs v v')
 | .view c,.view c'=>znj c c'
 | _,_=>false
def qb(l:List (Nat×zo))(t:Tr zo):Tr zo:=List.rec t (fun p _ ih=>ih.set p.1 p.2) l
def Xu(l:List (Nat×zo))(t:Tr zo):Tr zo:=List.rec t (fun p _ ih=>ih.del p.1) l
def zbJ(t:Tr zo)(l:List (Nat×zo)):Bool:=List.rec true (fun p _ ih=>zn (zh (t.get p.1) false fun b=>Zh b p.2) ih) l
def yq(H:Heap)(rin rout:List (Nat×zo))(n:Nat):Heap:=⟨qb rout (Xu rin H.blk),n⟩
def zw5(v:zb):Option Nat:=match v with|.ptr b _=>some b|.slice b _ _ _ _=>some b|.map r=>some r|.osl b _=>some b|.psl b _ _ _ _=>some b|_=>none
def zA1(as:List zb)(ai fi:Nat):Option Nat:=bnd (kY ai as) fun a=>qW fi (zw5 a) fun k=>bnd (asAgg a) fun l=>bnd (kY k l) zw5
def zxq(H:Heap)(b ci:Nat):Option Nat:=qW ci (some b) fun k=>bnd (H.row b) fun r=>bnd (Tr.get r.c k) zw5
def zyi(as:List zb)(H:Heap)(g:Seg):Option (Nat×Nat×Nat):=
 bnd (zA1 as g.ai g.fi) fun b=>bnd (zxq H b g.ci) fun a=>ifB (Nat.ble g.cid (Nat.add a g.lo)) (frc (Nat.sub (Nat.add a g.lo) g.cid) fun n=>some (g.lo,g.hi,n)) none
def zpw(as:List zb)(H:Heap)(l:List Seg):Option (List (Nat×Nat×Nat)):=List.rec (some []) (fun g _ ih=>bnd (zyi as H g) fun x=>bnd ih fun m=>some (x::m)) l
def ren(nx next:Nat)(l:List (Nat×Nat×Nat))(id:Nat):Nat:=
 ifB (Nat.ble nx id) (Nat.add next (Nat.sub id nx)) (List.rec id (fun x _ ih=>ifB (zn (Nat.ble x.1 id) (blt id x.2.1)) (Nat.add x.2.2 (Nat.sub id x.1)) ih) l)
def UR(N nx next:Nat)(l:List (Nat×Nat×Nat)):Bool:=
 List.rec true (fun x _ ih=>zn (zn (Nat.ble N x.1) (zn (Nat.ble x.1 x.2.1) (zn (Nat.ble x.2.1 nx) (Nat.ble (Nat.add x.2.2 (Nat.sub x.2.1 x.1)) next)))) ih) l
def zcR(n:Nat)(l:List Nat):Bool:=List.rec false (fun a _ ih=>ifB (Nat.beq n a) true ih) l
def Je(l:List Nat):Bool:=List.rec true (fun a m ih=>ifB (zcR a m) false ih) l
def zpH(N nx:Nat)(ρ:Nat->Nat)(l:List (Nat×zo)):Bool:=List.rec true (fun p _ ih=>zn (zn (Nat.ble N p.1) (zn (blt p.1 nx) (zn (Nat.ble 100 (ρ p.1)) (zh (ya p.2) true fun _=>false)))) ih) l
def Ym(ρ:Nat->Nat)(l:List (Nat×zo)):List Nat:=List.rec [] (fun p _ ih=>frc (ρ p.1) fun m=>m::ih) l
def jH(ρ:Nat->Nat)(v:zb):zb:=
 @zb.rec (fun _=>zb) (fun _=>List zb)
  (fun b=>.bool b) (fun k n=>.int k n) (fun s=>.str s) .nilp (fun b o=>frc (ρ b) fun m=>.ptr m o) .nilslice (fun b o l c x=>frc (ρ b) fun m=>.slice m o l c x) .nilmap (fun r=>frc (ρ r) fun m=>.map m)
  (fun f _ _ l m=>.fn f l m) (fun l=>frc (ρ l) fun m=>.yieldf m) (fun b c=>frc (ρ b) fun m=>.capv m c) .nilfn (fun t _ v=>.iface t v) .niliface (fun _ l=>.agg l) (fun _ l=>.tuple l) (fun i=>frc (ρ i) fun m=>.sym m) (fun b o q=>frc (ρ b) fun m=>.esl m o q)
  (fun b _ v=>frc (ρ b) fun m=>.osl m v) (fun b o q c x=>frc (ρ b) fun m=>frc (ρ q) fun p=>.psl m o p c x)
  [] (fun _ _ a l=>a::l) v
def X4(ρ:Nat->Nat)(l:List zb):List zb:=List.rec [] (fun a _ ih=>jH ρ a::ih) l
def zhH(ρ:Nat->Nat)(b:zo):zo:=
 zo.rec (fun t n c=>.cells t n (YF (jH ρ) c)) (fun es c=>.map (mapA (fun e=>(e.1,jH ρ e.2.1,e.2.2)) es) c) (fun a b c e f g h i=>.loop a b c e f g h i) (fun s p=>.siter s p) (fun t v=>.text t (jH ρ v)) (fun t n N=>.pack t n N) (fun t v=>.ints t (jH ρ v)) (fun c=>.view (YF (jH ρ) c)) b
def zkt(v:zb):Bool:=
 match v with
 | .ptr ..=>false|.slice ..=>false|.map ..=>false|.yieldf ..=>false|.capv ..=>false|.sym ..=>false|.esl ..=>false|.osl ..=>false|.psl ..=>false|.fn ..=>false|.iface ..=>false|.agg ..=>false|.tuple ..=>false|_=>true
def zh3(t:Tr zb):Bool:=Tr.rec true (fun _ v _ il ir=>ifB (zh v true zkt) (ifB il ir false) false) t
def zqw(es:UI):Bool:=List.rec true (fun e _ ih=>ifB (zkt e.2.1) ih false) es
def zyR(b:zo):Bool:=
 zo.rec (fun _ _ c=>zh3 c) (fun es _=>zqw es) (fun _ _ _ _ _ _ _ _=>true) (fun _ _=>true) (fun _ v=>zkt v) (fun _ _ _=>true) (fun _ v=>zkt v) (fun c=>zh3 c) b
def zpG(ρ:Nat->Nat)(b:zo):zo:=ifB (zyR b) b (zhH ρ b)
def zgm(ρ:Nat->Nat)(t:Tr zo)(l:List (Nat×zo)):Bool:=List.rec true (fun p _ ih=>zn (frc (ρ p.1) fun m=>zh (t.get m) false fun b=>Zh b (zpG ρ p.2)) ih) l
def Yp(ρ:Nat->Nat)(l:List (Nat×zo))(t:Tr zo):Tr zo:=List.rec t (fun p _ ih=>frc (ρ p.1) fun m=>ih.del m) l
def X8(ρ:Nat->Nat)(l:List (Nat×zo))(t:Tr zo):Tr zo:=List.rec t (fun p _ ih=>frc (ρ p.1) fun m=>ih.set m (zpG ρ p.2)) l
def zbB(ρ:Nat->Nat)(H:Heap)(rin rout:List (Nat×zo))(n:Nat):Heap:=⟨X8 ρ rout (Yp ρ rin H.blk),n⟩
def zrv(as bs:List zb)(H:Heap)(N nx:Nat)(rin rout:List (Nat×zo))(r:zb)(n:Nat)(l:List (Nat×Nat×Nat))(ρ:Nat->Nat):Option (zb×Heap):=
 ifB (zn (UR N nx H.next l) (zn (kv as (X4 ρ bs)) (zn (zpH N nx ρ rin) (zn (Je (Ym ρ rin)) (zgm ρ H.blk rin)))))
  (frc (Nat.add H.next (Nat.sub n nx)) fun m=>some (jH ρ r,zbB ρ H rin rout m)) none
def zga(g:FuncId)(as:List zb)(H:Heap)(f:Fact):Option (zb×Heap):=
 match f with
 | .memoG h N segs bs nx rin rout r n=>ifB (Nat.beq g h) (bnd (zpw as H segs) fun l=>ifB (zn (Nat.ble nx H.next) (zn (Nat.ble 100 N) (Nat.ble N nx))) (zrv as bs H N nx rin rout r n l (ren nx H.next l)) none) none
 | _=>none
def zmo(g:FuncId)(as:List zb)(H:Heap)(f:Fact):Option (zb×Heap):=
 match f with
 | .memo h bs nx rin rout r n=>ifB (zn (Nat.beq g h) (zn (kv as bs) (zn (Nat.beq H.next nx) (zbJ H.blk rin)))) (some (r,yq H rin rout n)) none
 | _=>none
def zbT(E:Env)(H:Heap)(a p:zb):Bool:=
 zh (QQ p) (qs a p) fun q=>ifB (zh (QQ a) (zh (kN a) false fun _=>true) fun _=>true) (zh (Y6 E H a) false fun v=>qs v q.2) false
def zbS(E:Env)(H:Heap)(l:List zb):List zb->Bool:=
 List.rec (motive:=fun _=>List zb->Bool) (fun m=>lC m true fun _ _=>false) (fun a _ ih m=>lC m false fun b m=>zn (zbT E H a b) (ih m)) l
def zmm(E:Env)(g:FuncId)(as:List zb)(H:Heap)(f:Fact):Option zb:=match f with|.read h bs r=>ifB (zn (Nat.beq g h) (zbS E H as bs)) (some r) none|_=>none
def zxB(E:Env)(rec:Rec)(f:FuncId)(args:List zb)(H:Heap)(s:Spec):R:=
 match s with
 | .mapsClone=>zbY args H
 | .indexByte=>zb0 args H
 | .makeNoZero e=>zaC e args H
 | .same=>zxO args H
 | .insert=>zgJ E (qj E rec f) args H
 | .compare=>zg4 args H
 | .count=>zoX args H
 | .fact=>bnd (E.funcs.get f) fun fn=>bnd fn.body fun _=>
  zh (findF (zid f args) E.facts) (zh (findF (zib f args) E.facts) (zh (findF (zmo f args H) E.facts) (zh (findF (zga f args H) E.facts) (zh (findF (zmm E f args H) E.facts) (qj E rec f args H) fun r=>some (r,H)) fun q=>some q) fun q=>some q) fun q=>zoW H q.1 q.2.1 q.2.2.1 q.2.2.2) fun r=>some (r,H)
def zm5(E:Env)(rec:Rec)(f:FuncId)(args:List zb)(H:Heap):R:=
 zh (E.spec.get f) (qj E rec f args H) fun s=>zxB E rec f args H s
def UQ(ps:List Tmp):List zb->Tr zb->Tr zb:=
 List.rec (motive:=fun _=>List zb->Tr zb->Tr zb) (fun _ T=>T) (fun p _ ih l T=>lC l T fun a m=>ih m (T.set p a)) ps
def Heap.lp(H:Heap)(l:Nat):Option Lp:=ifB (Nat.ble 100 l) (bnd (H.blk.get l) ya) none
def Heap.J3(H:Heap)(l:Nat)(q:Lp)(st:LoopState)(pend:Option Code):Heap:=
 ⟨H.blk.set l (.loop st pend q.fn q.n q.T q.ps q.assign q.body),H.next⟩
def isReady(s:LoopState):Bool:=match s with|.ready=>true|_=>false
def zwZ(s:LoopState):Bool:=match s with|.busy=>true|_=>false
def zpC(l:Nat)(r:jk):R:=
 @jk.rec (fun _=>R) none
  (fun _ H=>bnd (H.lp l) fun q=>some (.bool true,H.J3 l q .ready none))
  (fun id _ H=>bnd (H.lp l) fun q=>some (.bool false,H.J3 l q .done (some (.exit id))))
  (fun _ H=>bnd (H.lp l) fun q=>some (.bool false,H.J3 l q .done (some .ret))) r
def zBJ(r:jk)(f:Tr zb->Heap->R):R:=@jk.rec (fun _=>R) none f (fun _ _ _=>none) (fun _ _=>none) r
def zq0(n:Nat)(l:List Tmp):Bool:=List.rec true (fun p _ ih=>ifB (blt p n) ih false) l
def zlq(rec:Rec)(l:Nat)(args:List zb)(H:Heap):R:=
 bnd (H.lp l) fun q=>ifB (zn (isReady q.st) (zn (Nat.beq (qS args 0) (qS q.ps.toList 0)) (zq0 q.n q.ps.toList)))
  (zBJ (rec ⟨q.n,q.fn,some l⟩ q.assign (UQ q.ps.toList args q.T) H) fun T H=>bnd (H.lp l) fun q'=>
   ifB (isReady q'.st) (zpC l (rec ⟨q.n,q.fn,some l⟩ q.body T (H.J3 l q' .busy q'.pend))) none) none
def zxr(E:Env)(rec:Rec)(args:List zb)(H:Heap)(f:FuncId)(first captured:List zb):R:=zm5 E rec f (zP first (zP args captured)) H
def zlE(E:Env)(rec:Rec)(g:zb)(args:List zb)(H:Heap):R:=
 match g with
 | .fn f first captured=>zxr E rec args H f first captured
 | .yieldf l=>zlq rec l args H
 | _=>none
def zAU(b:Builtin)(args:Array Operand)(ts:Array TypeId):OpF:=fun E _ T H=>bnd (evs T args.toList) fun vs=>UD E H b ts.toList vs
def zu5(g:Operand)(args:Array Operand):OpF:=fun E rec T H=>bnd (ev T g) fun v=>bnd (evs T args.toList) fun vs=>zlE E rec v vs H
def zzz(c:Call):OpF:=@Callee.rec (fun _=>Array Operand->Array TypeId->OpF) (fun g args _=>zu5 g args) (fun _ _ _ _=>Yd) zAU c.callee c.args c.argTypes
def aop(o:Op):OpF:=@Op.rec (fun _=>OpF)
 zvR zvR zzw zxg zCk zxe ziF zda zzy zw9 (fun _=>Yd) (fun _=>Yd) zn9 zxf zzv zrs
 (fun _ _=>Yd) zdb zoa zrq (fun _ _=>Yd) zkK zxa zkM zxd zkL zxc ztQ zda
 (fun _ _ _=>Yd) (fun _ _ _ _=>Yd) zxb zzx (fun _=>Yd) ziE zrr zzz (fun _=>Yd) (fun _=>Yd) (fun _=>Yd)
 (fun _ _=>Yd) (fun _ _ _=>Yd) (fun _ _=>Yd) o
abbrev zgT:=Tr zb->Heap->jk
def zvi(n:Nat)(dst:Option Tmp)(T:Tr zb)(v:zb)(f:Tr zb->jk):jk:=
 zh dst (f T) fun d=>ifB (blt d n) (f (T.set d v)) .fail
def zft(E:Env)(rec:Rec)(n:Nat)(o:Oper)(T:Tr zb)(H:Heap)(k:zgT):jk:=
 zh (aop o.op E rec T H) .fail fun r=>zvi n o.dst T r.1 fun T'=>k T' r.2
def Uv(T:Tr zb)(d:Tmp)(want:Bool):Bool:=zh (T.get d) false fun v=>zh (asBool v) false fun b=>zoG b want
def Kk(ops:List Oper)(T:Tr zb)(g:Nat×Bool):Bool:=zh (kY g.1 ops) false fun o=>zh o.dst false fun d=>Uv T d g.2
def Uj(v:zb):Bool:=ifB (zaZ v) true (Ya v)
def zfH(ops:List Oper)(T:Tr zb)(g:Nat×Bool):Bool:=zh (kY g.1 ops) false fun o=>zh o.dst false fun d=>zh (T.get d) false Uj
def zbr(E:Env)(rec:Rec)(n:Nat)(ops:List Oper)(o:Oper)(k:zgT)(T:Tr zb)(H:Heap):jk:=
 zh o.guard (zft E rec n o T H k) fun g=>ifB (zfH ops T g) .fail (ifB (Kk ops T g) (zft E rec n o T H k) (zvi n o.dst T jf fun T'=>k T' H))
def zvk(E:Env)(rec:Rec)(n:Nat)(ops:List Oper)(l:List Oper):zgT:=
 List.rec (motive:=fun _=>zgT) (fun T H=>.nrm T H) (fun o _ ih=>zbr E rec n ops o ih) l
structure OpM where
 i:Nat
 pre:Nat
 anc:Nat
 kind:Nat
 o:Oper
def zaq(e:Edge):Bool:=Region.binds .any e
def Zm(es:List Edge):Nat:=List.rec 0 (fun e _ ih=>ifB (zaq e) (lor (Nat.shiftLeft 1 e.on) ih) ih) es
def QF(acc:List Nat)(es:List Edge):Nat:=
 List.rec 0 (fun e _ ih=>ifB (zaq e) (lor (lor (Nat.shiftLeft 1 e.on) (zh (kY e.on acc) 0 fun a=>a)) ih) ih) es
def YW(l:List Oper):List Nat->List Nat:=
 List.rec (motive:=fun _=>List Nat->List Nat) (fun acc=>acc) (fun o _ ih acc=>frc (QF acc o.after.toList) fun a=>ih (zP acc [a])) l
def zep(x:Operand):Option Nat:=match x with|.tmp t=>some t|_=>none
def znU(t:Nat)(l:List Operand):Bool:=List.rec false (fun x _ ih=>zh (zep x) ih fun u=>ifB (Nat.beq u t) true ih) l
def looks(ops:List Oper)(o:Oper)(t:Nat):Bool:=
 ifB (znU t o.op.operands.toList) true (zh o.guard false fun g=>zh (kY g.1 ops) false fun q=>zh q.dst false fun d=>Nat.beq d t)
def bit(m i:Nat):Bool:=Nat.beq (land (Nat.shiftRight m i) 1) 1
def late(ops:List Oper)(w:Nat)(t:Nat)(l:List Oper):List Nat->Bool:=
 List.rec (motive:=fun _=>List Nat->Bool) (fun _=>false)
  (fun o _ ih as=>lC as false fun a as=>ifB (looks ops o t) (ifB (bit a w) (ih as) true) (ih as)) l
def zll(b:Builtin):Bool:=match b with|.len=>true|.cap=>true|.min=>true|.max=>true|_=>false
def zdG(c:Call):Bool:=match c.callee with|.builtin b=>zll b|_=>false
def toInt(E:Env)(t:TypeId):Bool:=zh (E.desc t) false isInt
def yp(E:Env)(o:Op):Nat:=
 match o with
 | .move _=>0|.assign _=>0|.pick _ _ _=>0|.build _ _=>0|.load _ _=>0|.nilCheck _=>0|.binOp _ _ _ _ _=>0|.unOp _ _ _=>0
 | .makeInterface _ _=>0|.makeFunc _ _ _=>0|.slice _ _ _ _ _=>0|.fieldAddr _ _ _=>0|.field _ _ _=>0|.indexAddr _ _ _=>0|.index _ _ _=>0
 | .lookup _ _ _ _=>0|.typeAssert _ _ _ _=>0|.extract _ _=>0
 | .convert _ d _=>ifB (toInt E d) 0 2
 | .call c=>ifB (zdG c) 0 2
 | .alloc _=>1|.box _ _=>1|.buildSlice _ _ _=>1|.makeSlice _ _ _=>1
 | _=>2
def kindOf(E:Env)(ops:List Oper)(as:List Nat)(i:Nat)(o:Oper):Nat:=
 zh o.dst (ifB (Nat.beq (yp E o.op) 1) 2 (yp E o.op)) fun d=>ifB (late ops i d ops as) 2 (yp E o.op)
def zcO(E:Env)(ops:List Oper)(as:List Nat)(l:List Oper):Nat->List Nat->List OpM:=
 List.rec (motive:=fun _=>Nat->List Nat->List OpM) (fun _ _=>[])
  (fun o _ ih i bs=>lC bs [] fun a bs=>frc (Zm o.after.toList) fun p=>frc (kindOf E ops as i o) fun k=>⟨i,p,a,k,o⟩::ih (Nat.succ i) bs) l
def qC(E:Env)(ops:List Oper):List OpM:=zcO E ops (YW ops []) ops 0 (YW ops [])
def zcI(t:Nat)(l:List Oper):Bool:=List.rec true (fun o _ ih=>zh o.dst ih fun d=>ifB (Nat.beq d t) false ih) l
def Qk(l:List Oper):Bool:=List.rec true (fun o r ih=>zh o.dst ih fun d=>ifB (zcI d r) ih false) l
def Vz(a b:Nat):Bool:=Nat.beq (land a b) a
def Ke(m i:Nat):Nat:=lor m (Nat.shiftLeft 1 i)
def isK(k:Nat)(m:OpM):Bool:=Nat.beq m.kind k
abbrev DrF:=Nat->Tr zb->Heap->jk
def zrP(E:Env)(rec:Rec)(n:Nat)(ops:List Oper)(m:OpM)(D:Nat)(T:Tr zb)(H:Heap)(k:DrF):jk:=
 frc (Ke D m.i) fun D'=>zbr E rec n ops m.o (fun T H=>k D' T H) T H
def zaI(E:Env)(rec:Rec)(n:Nat)(ops:List Oper)(k:DrF)(l:List OpM):DrF:=
 List.rec (motive:=fun _=>DrF) k
  (fun m _ ih D T H=>ifB (bit D m.i) (ih D T H) (ifB (zn (kI (isK 2 m)) (Vz m.pre D)) (zrP E rec n ops m D T H ih) (ih D T H))) l
def sameAs(T:Tr zb)(dst:Option Tmp)(v:zb):Bool:=zh dst true fun d=>zh (T.get d) false fun u=>qs u v
def ZP:Rec:=fun _ _ _ _=>.fail
def bid(v:zb):Option Nat:=match v with|.ptr b _=>some b|.slice b _ _ _ _=>some b|_=>none
def zs2(m:Nat)(v:zb):zb:=match v with|.ptr _ o=>.ptr m o|.slice _ o l c x=>.slice m o l c x|v=>v
def zpA(r q:Row):Bool:=zn (Nat.beq r.t q.t) (zn (Nat.beq r.n q.n) (znj r.c q.c))
def zlY(T:Tr zb)(H:Heap)(dst:Option Tmp)(r:zb×Heap):Bool:=
 zh dst false fun d=>zh (T.get d) false fun u=>zh (bid u) false fun m=>zh (H.row m) false fun q=>zh (r.2.row H.next) false fun q'=>
  zn (qs (zs2 m r.1) u) (zpA q q')
def zgL(E:Env)(T:Tr zb)(H:Heap)(row:Bool)(o:Oper):Bool:=
 zh (aop o.op E ZP T H) false fun r=>ifB row (zlY T H o.dst r) (sameAs T o.dst r.1)
def again(E:Env)(ops:List Oper)(T:Tr zb)(H:Heap)(row:Bool)(o:Oper):Bool:=
 zh o.guard (zgL E T H row o) fun g=>ifB (zfH ops T g) false (ifB (Kk ops T g) (zgL E T H row o) (sameAs T o.dst jf))
def zdP(E:Env)(ops:List Oper)(HA D:Nat)(T:Tr zb)(H:Heap)(l:List OpM):Bool:=
 List.rec true (fun m _ ih=>ifB (zn (kI (isK 2 m)) (zn (bit D m.i) (kI (bit HA m.i)))) (ifB (again E ops T H (isK 1 m) m.o) ih false) ih) l
def enabled(D:Nat)(l:List OpM):List OpM:=List.rec [] (fun m _ ih=>ifB (zn (kI (bit D m.i)) (Vz m.pre D)) (m::ih) ih) l
def Yo(next:Nat->DrF)(E:Env)(rec:Rec)(n:Nat)(ops:List Oper)(ms:List OpM)(HA:Nat):DrF:=fun D T H=>
 ifB (zdP E ops HA D T H ms)
  (lC (enabled D ms) (ifB (Nat.beq (Nat.succ D) (Nat.shiftLeft 1 (qS ops 0))) (.nrm T H) .fail)
   fun m r=>lC r (ifB (isK 2 m) (frc (lor HA m.anc) fun HA'=>zrP E rec n ops m D T H (next HA')) .fail) fun _ _=>.fail) .fail
def zuP(E:Env)(rec:Rec)(n:Nat)(ops:List Oper)(ms:List OpM)(f:Nat):Nat->DrF:=
 Nat.rec (motive:=fun _=>Nat->DrF) (fun _ _ _ _=>.fail) (fun _ ih HA=>zaI E rec n ops (Yo ih E rec n ops ms HA) ms) f
def zjk(E:Env)(rec:Rec)(n:Nat)(ops:List Oper)(T:Tr zb)(H:Heap):jk:=
 ifB (Qk ops) (zuP E rec n ops (qC E ops) (Nat.succ (qS ops 0)) 0 0 T H) .fail
abbrev Vf:=Env->Rec->Fr->Tr zb->Heap->jk
def zq8:Vf:=fun _ _ _ _ _=>.fail
def zvO:Vf:=fun _ _ _ T H=>.nrm T H
def ztE(ops:Array Oper)(draw:Bool):Vf:=fun E rec fr T H=>ifB draw (zjk E rec fr.n ops.toList T H) (zvk E rec fr.n ops.toList ops.toList T H)
def zB2(a b:Vf):Vf:=fun E rec fr T H=>@jk.rec (fun _=>jk) .fail (fun T H=>b E rec fr T H) (fun id T H=>.ex id T H) (fun T H=>.ret T H) (a E rec fr T H)
def zzq(c:Operand)(a b:Vf):Vf:=fun E rec fr T H=>zh (ev T c) .fail fun v=>zh (asBool v) .fail fun q=>ifB q (a E rec fr T H) (b E rec fr T H)
def zwY(id:Nat)(a:Vf):Vf:=fun E rec fr T H=>
 @jk.rec (fun _=>jk) .fail (fun T H=>.nrm T H) (fun j T H=>ifB (Nat.beq j id) (.nrm T H) (.ex j T H)) (fun T H=>.ret T H) (a E rec fr T H)
def zc5(a b:Option zb):Option zb:=ifB (oeq a b) a (some zsN)
def XV(t:Tr zb):Tr zb:=Tr.rec .nil (fun _ v _ l r=>.node l (zh v none fun _=>some zsN) r) t
def ZL(t:Tr zb):Tr zb->Tr zb:=
 Tr.rec (motive:=fun _=>Tr zb->Tr zb) (fun s=>XV s)
  (fun l v r ihl ihr s=>Tr.rec (motive:=fun _=>Tr zb) (XV (.node l v r)) (fun l' v' r' _ _=>.node (ihl l') (zc5 v v') (ihr r')) s) t
def zwL(a b:Option zo):Bool:=zh a (zh b true fun _=>false) fun x=>zh b false fun y=>Zh x y
def ztP(t:Tr zo):Tr zo->Bool:=
 Tr.rec (motive:=fun _=>Tr zo->Bool) (fun s=>Tr.rec (motive:=fun _=>Bool) true (fun _ _ _ _ _=>false) s)
  (fun _ v _ ihl ihr s=>Tr.rec (motive:=fun _=>Bool) false (fun l v' r _ _=>zn (zwL v v') (zn (ihl l) (ihr r))) s) t
def heq(H H':Heap):Bool:=zn (Nat.beq H.next H'.next) (ztP H.blk H'.blk)
def zmv(a b:jk):jk:=
 match a,b with
 | .nrm T H,.nrm T' H'=>ifB (heq H H') (.nrm (ZL T T') H) .fail
 | .ret T H,.ret T' H'=>ifB (heq H H') (.ret (ZL T T') H) .fail
 | .ex i T H,.ex j T' H'=>ifB (zn (Nat.beq i j) (heq H H')) (.ex i (ZL T T') H) .fail
 | _,_=>.fail
def WI(run:List Fact->jk)(l:List (List Fact)):jk:=List.rec (motive:=fun _=>jk) .fail (fun f r ih=>lC r (run f) fun _ _=>zmv (run f) ih) l
def roundOf(T:Tr zb)(t:Nat):Option Nat:=bnd (T.get t) fun v=>bnd (asInt v) fun p=>We p.2 some
def Ww(E:Env)(fn:FuncId)(T:Tr zb):Option (List (List Fact)):=bnd (E.alts.get fn) fun q=>bnd (roundOf T q.1) fun i=>kY i q.2
def zmq(c:Code)(rec:Rec)(fr:Fr)(r:jk):jk:=@jk.rec (fun _=>jk) .fail (fun T H=>rec fr (.loop c) T H) (fun j T H=>.ex j T H) (fun T H=>.ret T H) r
def zzo(c:Code)(a:Vf):Vf:=fun E rec fr T H=>
 zmq c rec fr (zh (Ww E fr.fn T) (a E rec fr T H) fun l=>WI (fun f=>a (E.plus f) ZP fr T H) l)
def zzp(id:Nat):Vf:=fun _ _ _ T H=>.ex id T H
def zB3:Vf:=fun _ _ _ T H=>.ret T H
def jump(c:Code)(T:Tr zb)(H:Heap):jk:=match c with|.ret=>.ret T H|.exit id=>.ex id T H|_=>.fail
def zhJ(l:Nat)(T:Tr zb)(H:Heap):jk:=
 zh (H.lp l) .fail fun q=>ifB (zwZ q.st) .fail (zh q.pend (.nrm T (H.J3 l q .exhausted q.pend)) fun c=>jump c T (H.J3 l q .exhausted q.pend))
def zwn(fr:Fr)(H:Heap):Bool:=zh fr.ro true fun l=>zh (H.lp l) false fun _=>true
def zA0(v:zb):Option (FuncId×List zb×List zb):=match v with|.fn f l m=>some (f,l,m)|_=>none
def zl8(E:Env)(rec:Rec)(fr:Fr)(T:Tr zb)(H:Heap)(l:Nat)(q:FuncId×List zb×List zb)(ps:Array Tmp)(assign body:Code):jk:=
 zh (qj E rec q.1 (zP q.2.1 (zP [.yieldf l] q.2.2)) ⟨H.blk.set l (.loop .ready none fr.fn fr.n T ps assign body),Nat.succ l⟩) .fail fun r=>zhJ l T r.2
def zcZ(f:Operand)(ps:Array Tmp)(assign body:Code):Vf:=fun E rec fr T H=>
 ifB (zwn fr H) (zh (ev T f) .fail fun v=>zh (zA0 v) .fail fun q=>zh (E.spec.get q.1) (frc H.next fun l=>zl8 E rec fr T H l q ps assign body) fun _=>.fail) .fail
def Q3(c:Code):Vf:=@Code.rec (fun _=>Vf)
 zvO (fun _ ops d=>ztE ops d) (fun _ _ a b=>zB2 a b) (fun c _ _ a b=>zzq c a b) (fun id _ a=>zwY id a) (fun c a=>zzo c a)
 (fun f ps a b _ _=>zcZ f ps a b) (fun id=>zzp id) (fun _ _=>zq8) (fun _=>zvO) (fun _=>zq8) zB3 (fun _=>zq8) c
def jg(E:Env)(n:Nat):Rec:=Nat.rec (motive:=fun _=>Rec) (fun _ _ _ _=>.fail) (fun _ ih fr c T H=>Q3 c E ih fr T H) n
end
end
end Go.AEv
