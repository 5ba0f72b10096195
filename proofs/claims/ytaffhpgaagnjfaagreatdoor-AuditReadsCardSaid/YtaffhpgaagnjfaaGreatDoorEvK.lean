/- Trails: EvK. Conditions: each theorem's. -/
import Derived.AtR
import Derived.Lib.Hide
import Derived.KernelRfl
open Nat
namespace Go
set_option linter.all false
def C{p:Prop}(h:p:=by decide):p:=h
def I{p:Prop}(h:p:=by omega):p:=h
def Oc{p:Prop}(h:p:=by simp):p:=h
def U{p:Prop}(h:p:=by kernel_rfl):p:=h
abbrev A:=@_root_.Go.Lib.hid
abbrev O:=@_root_.if_neg
abbrev Y:=@_root_.if_pos
abbrev Ld:=@_root_.absurd
abbrev Le:=@_root_.Bool.and_eq_true
abbrev Lf:=@_root_.List.mem_cons
abbrev Lg:=@_root_.Go.Sem.run_bind
abbrev Lh:=@_root_.Nat.le_refl
abbrev Li:=@_root_.Go.Result.andThen_ok
abbrev Lj:=@_root_.Nat.le_trans
abbrev Lk:=@_root_.decide_eq_true_eq
abbrev Ll:=@_root_.beq_iff_eq
abbrev Lm:=@_root_.List.length_append
abbrev Ln:=@_root_.Go.Sem.run_pure
abbrev Lo:=@_root_.or_false
abbrev Lq:=@_root_.List.mem_nil_iff
abbrev Lr:=@_root_.List.mem_range
abbrev Ls:=@_root_.List.length_map
abbrev Lu:=@_root_.List.mem_singleton
abbrev Lv:=@_root_.List.mem_map
abbrev Lw:=@_root_.List.getElem?_map
abbrev Lx:=@_root_.decide_eq_true
abbrev Ly:=@_root_.List.getElem?_eq_getElem
abbrev Lz:=@_root_.Nat.zero_add
abbrev LA:=@_root_.Nat.add_sub_cancel_left
abbrev LC:=@_root_.decide_eq_false
abbrev LD:=@_root_.Nat.lt_or_ge
abbrev LF:=@_root_.List.length_set
abbrev LG:=@_root_.List.mem_cons_self
abbrev LH:=@_root_.decide_eq_false_iff_not
abbrev LJ:=@_root_.List.mem_append
abbrev LK:=@_root_.Nat.lt_of_lt_of_le
abbrev LL:=@_root_.List.getElem?_eq_some_iff
abbrev LM:=@_root_.Option.isSome_iff_exists
abbrev LO:=@_root_.Array.getElem?_eq_some_iff
abbrev LP:=@_root_.List.mem_cons_of_mem
abbrev LU:=@_root_.Option.map_eq_some_iff
abbrev LV:=@_root_.Array.getElem?_toList
abbrev LW:=@_root_.Option.getD_some
abbrev LX:=@_root_.List.mem_of_getElem?
abbrev LY:=@_root_.if_false
abbrev LZ:=@_root_.List.map_map
abbrev Aa:=@_root_.Option.some.inj
abbrev Ab:=@_root_.List.map_congr_left
abbrev Ac:=@_root_.Option.map_some
abbrev Ad:=@_root_.List.all_eq_true
abbrev Ae:=@_root_.List.append_assoc
abbrev Af:=@_root_.Nat.mod_lt
abbrev Ag:=@_root_.Option.some.injEq
abbrev Ah:=@_root_.List.getElem?_range
abbrev Ai:=@_root_.Bool.false_eq_true
abbrev Aj:=@_root_.List.getElem?_append_right
abbrev Ak:=@_root_.Nat.mul_one
abbrev Al:=@_root_.Nat.le_add_right
abbrev Am:=@_root_.List.length_cons
abbrev Ao:=@_root_.List.getElem?_append_left
abbrev Ap:=@_root_.List.getElem?_cons_succ
abbrev Aq:=@_root_.List.getD_eq_getElem?_getD
abbrev Ar:=@_root_.List.length_take
abbrev As:=@_root_.List.length_range
abbrev Au:=@_root_.List.getElem?_eq_none
abbrev Av:=@_root_.Array.getElem?_eq_getElem
abbrev Aw:=@_root_.List.map_cons
abbrev Ax:=@_root_.List.eq_nil_of_length_eq_zero
abbrev Ay:=@_root_.List.mem_append_right
abbrev Az:=@_root_.List.map_append
abbrev AA:=@_root_.Nat.mod_eq_of_lt
abbrev AB:=@_root_.List.getElem?_toArray
abbrev AD:=@_root_.Array.getElem?_modify
abbrev AE:=@_root_.List.mem_flatMap
abbrev AF:=@_root_.List.ext_getElem?
abbrev AG:=@_root_.Bool.and_eq_false_iff
abbrev AH:=@_root_.Option.isSome_none
abbrev AI:=@_root_.List.toList_toArray
abbrev AJ:=@_root_.List.append_nil
abbrev AK:=@_root_.Bool.or_eq_true
abbrev AL:=@_root_.List.getElem_mem
abbrev AM:=@_root_.Array.size_setIfInBounds
abbrev AN:=@_root_.Array.getElem?_setIfInBounds
abbrev AO:=@_root_.List.take_of_length_le
abbrev AQ:=@_root_.List.size_toArray
abbrev AU:=@_root_.Nat.add_assoc
abbrev AV:=@_root_.List.length_pos_iff
abbrev AW:=@_root_.List.append_eq_nil_iff
abbrev AX:=@_root_.Nat.lt_of_le_of_lt
abbrev AY:=@_root_.List.flatten_cons
abbrev AZ:=@_root_.Nat.pos_of_ne_zero
abbrev Oe:Array Value:=#[.int .u8 0,.int .u8 0,.int .u8 0,.int .u8 0,.int .u8 0,.int .u8 0,.int .u8 0,.int .u8 0,.int .u8 0,.int .u8 0,.int .u8 0,.int .u8 0,.int .u8 0,.int .u8 0,.int .u8 0,.int .u8 0,.int .u8 0,.int .u8 0,.int .u8 0,.int .u8 0,.int .u8 0,.int .u8 0,.int .u8 0,.int .u8 0,.int .u8 0,.int .u8 0,.int .u8 0,.int .u8 0,.int .u8 0,.int .u8 0,.int .u8 0,.int .u8 0]
abbrev Ea:=World
abbrev Eb:=List Nat
abbrev Ec:=List Value
abbrev Ed:=Option Addr
abbrev Ee:=ByteArray
abbrev Ef:=Program
abbrev Eg:=TypeId
abbrev Eh:=Array Value
abbrev Ei:=Value
abbrev Ej:=Nat × Nat × Nat
abbrev Ek:=Nat->Nat
abbrev El:=Nat->Value
abbrev Em:=Nat->Prop
abbrev En:=Option ByteArray
abbrev Eo:=Exit->Act->World->Prop
abbrev Ep:=Array Oper
abbrev Er:=List Oper
abbrev Es:=TypeDesc
abbrev Et:=IntKind
abbrev Eu:=FuncId
abbrev Ev:=Operand
abbrev Ew:=Ending
def RowKit.Hid.o{p:Prop}(h:RowKit.Hid p):p:=h.out
end Go
namespace Go.AEv
universe u v
noncomputable section
def ifB{α:Sort u}(b:Bool)(t e:α):α:=Bool.rec e t b
def bnd{α:Type u}{β:Type v}(x:Option α)(f:α->Option β):Option β:=Option.rec none f x
def Z{α:Type u}{β:Sort v}(x:Option α)(e:β)(f:α->β):β:=Option.rec e f x
def frc{α:Sort u}(n:Nat)(f:Nat->α):α:=Nat.rec (f 0) (λm _=>f m) (Nat.succ n)
def jY{α:Sort u}(n:Nat)(z:α)(s:Nat->α):α:=Nat.rec z (λm _=>s m) n
def Qi{α:Sort u}(n:Int)(p:Nat->α)(q:Nat->α):α:=Int.rec p q n
inductive Pa where
 | e|o (p:Pa)|i (p:Pa)
 deriving DecidableEq
inductive M (α:Type) where
 | nil
 | node (l:M α) (v:Option α) (r:M α)
def We(f:Nat):Nat->Pa:=
 Nat.rec (motive:=λ_=>Nat->Pa) (λ_=>.e)
  (λ_ ih i=>ifB (Nat.beq i 0) .e (ifB (Nat.beq (Nat.mod i 2) 1) (.o (ih (Nat.div i 2))) (.i (ih (Nat.sub (Nat.div i 2) 1))))) f
def path(n:Nat):Pa:=We (Nat.succ n) n
def Yq{α:Type}(p:Pa):M α->Option α:=
 Pa.rec (motive:=λ_=>M α->Option α)
  (λt=>M.rec none (λ_ v _ _ _=>v) t)
  (λ_ ih t=>M.rec none (λl _ _ _ _=>ih l) t)
  (λ_ ih t=>M.rec none (λ_ _ r _ _=>ih r) t) p
def aH{α:Type}(a:Option α)(p:Pa):M α->M α:=
 Pa.rec (motive:=λ_=>M α->M α)
  (λt=>M.rec (.node .nil a .nil) (λl _ r _ _=>.node l a r) t)
  (λ_ ih t=>M.rec (.node (ih .nil) none .nil) (λl v r _ _=>.node (ih l) v r) t)
  (λ_ ih t=>M.rec (.node .nil none (ih .nil)) (λl v r _ _=>.node l v (ih r)) t) p
namespace M
variable{α:Type}
def get(t:M α)(i:Nat):Option α:=Yq (path i) t
def set(t:M α)(i:Nat)(a:α):M α:=aH (some a) (path i) t
def del(t:M α)(i:Nat):M α:=aH none (path i) t
end M
def lC{α:Type u}{β:Sort v}(l:List α)(z:β)(s:α->List α->β):β:=List.rec z (λa l _=>s a l) l
end
end Go.AEv
namespace Go.AEv
section
universe u
noncomputable section
inductive G where
 | bool (b:Bool)
 | int (k:IntKind) (n:Int)
 | str (s:List Nat)
 | nilp
 | ptr (b off:Nat)
 | nilslice
 | slice (b off len cap:Nat) (exact:Bool)
 | nilmap
 | map (r:Nat)
 | fn (f:FuncId) (first captured:List G)
 | yieldf (l:Nat)
 | capv (b c:Nat)
 | nilfn
 | iface (t:TypeId) (v:G)
 | niliface
 | agg (l:List G)
 | tuple (l:List G)
 | sym (i:Nat)
 | esl (b o q:Nat)
 | osl (b:Nat) (v:G)
 | psl (b o q c:Nat) (ex:Bool)
def jo:G:=.tuple []
structure Sl where
 b:Nat
 off:Nat
 len:Nat
 cap:Nat
 ex:Bool
def asBool(v:G):Option Bool:=
 @G.rec (λ_=>Option Bool) (λ_=>PUnit)
  (λb=>some b)
  (λ_ _=>none)
  (λ_=>none)
  (none)
  (λ_ _=>none)
  (none)
  (λ_ _ _ _ _=>none)
  (none)
  (λ_=>none)
  (λ_ _ _ _ _=>none)
  (λ_=>none)
  (λ_ _=>none)
  (none)
  (λ_ _ _=>none)
  (none)
  (λ_ _=>none)
  (λ_ _=>none)
  (λ_=>none)
  (λ_ _ _=>none)
  (λ_ _ _=>none)
  (λ_ _ _ _ _=>none)
  ⟨⟩ (λ_ _ _ _=>⟨⟩) v
def asInt(v:G):Option (IntKind×Int):=
 @G.rec (λ_=>Option (IntKind×Int)) (λ_=>PUnit)
  (λ_=>none)
  (λk n=>some (k,n))
  (λ_=>none)
  (none)
  (λ_ _=>none)
  (none)
  (λ_ _ _ _ _=>none)
  (none)
  (λ_=>none)
  (λ_ _ _ _ _=>none)
  (λ_=>none)
  (λ_ _=>none)
  (none)
  (λ_ _ _=>none)
  (none)
  (λ_ _=>none)
  (λ_ _=>none)
  (λ_=>none)
  (λ_ _ _=>none)
  (λ_ _ _=>none)
  (λ_ _ _ _ _=>none)
  ⟨⟩ (λ_ _ _ _=>⟨⟩) v
def WL(v:G):Option Int:=
 @G.rec (λ_=>Option Int) (λ_=>PUnit)
  (λ_=>none)
  (λ_ n=>some n)
  (λ_=>none)
  (none)
  (λ_ _=>none)
  (none)
  (λ_ _ _ _ _=>none)
  (none)
  (λ_=>none)
  (λ_ _ _ _ _=>none)
  (λ_=>none)
  (λ_ _=>none)
  (none)
  (λ_ _ _=>none)
  (none)
  (λ_ _=>none)
  (λ_ _=>none)
  (λ_=>none)
  (λ_ _ _=>none)
  (λ_ _ _=>none)
  (λ_ _ _ _ _=>none)
  ⟨⟩ (λ_ _ _ _=>⟨⟩) v
def Yk(v:G):Option (Nat×Nat):=
 @G.rec (λ_=>Option (Nat×Nat)) (λ_=>PUnit)
  (λ_=>none)
  (λ_ _=>none)
  (λ_=>none)
  (none)
  (λb o=>some (b,o))
  (none)
  (λ_ _ _ _ _=>none)
  (none)
  (λ_=>none)
  (λ_ _ _ _ _=>none)
  (λ_=>none)
  (λ_ _=>none)
  (none)
  (λ_ _ _=>none)
  (none)
  (λ_ _=>none)
  (λ_ _=>none)
  (λ_=>none)
  (λ_ _ _=>none)
  (λ_ _ _=>none)
  (λ_ _ _ _ _=>none)
  ⟨⟩ (λ_ _ _ _=>⟨⟩) v
def yp(v:G):Option Sl:=
 @G.rec (λ_=>Option Sl) (λ_=>PUnit)
  (λ_=>none)
  (λ_ _=>none)
  (λ_=>none)
  (none)
  (λ_ _=>none)
  (none)
  (λb o l c x=>some ⟨b,o,l,c,x⟩)
  (none)
  (λ_=>none)
  (λ_ _ _ _ _=>none)
  (λ_=>none)
  (λ_ _=>none)
  (none)
  (λ_ _ _=>none)
  (none)
  (λ_ _=>none)
  (λ_ _=>none)
  (λ_=>none)
  (λ_ _ _=>none)
  (λ_ _ _=>none)
  (λ_ _ _ _ _=>none)
  ⟨⟩ (λ_ _ _ _=>⟨⟩) v
def js(v:G):Option (List Nat):=
 @G.rec (λ_=>Option (List Nat)) (λ_=>PUnit)
  (λ_=>none)
  (λ_ _=>none)
  (λs=>some s)
  (none)
  (λ_ _=>none)
  (none)
  (λ_ _ _ _ _=>none)
  (none)
  (λ_=>none)
  (λ_ _ _ _ _=>none)
  (λ_=>none)
  (λ_ _=>none)
  (none)
  (λ_ _ _=>none)
  (none)
  (λ_ _=>none)
  (λ_ _=>none)
  (λ_=>none)
  (λ_ _ _=>none)
  (λ_ _ _=>none)
  (λ_ _ _ _ _=>none)
  ⟨⟩ (λ_ _ _ _=>⟨⟩) v
def asAgg(v:G):Option (List G):=
 @G.rec (λ_=>Option (List G)) (λ_=>PUnit)
  (λ_=>none)
  (λ_ _=>none)
  (λ_=>none)
  (none)
  (λ_ _=>none)
  (none)
  (λ_ _ _ _ _=>none)
  (none)
  (λ_=>none)
  (λ_ _ _ _ _=>none)
  (λ_=>none)
  (λ_ _=>none)
  (none)
  (λ_ _ _=>none)
  (none)
  (λl _=>some l)
  (λ_ _=>none)
  (λ_=>none)
  (λ_ _ _=>none)
  (λ_ _ _=>none)
  (λ_ _ _ _ _=>none)
  ⟨⟩ (λ_ _ _ _=>⟨⟩) v
def asTuple(v:G):Option (List G):=
 @G.rec (λ_=>Option (List G)) (λ_=>PUnit)
  (λ_=>none)
  (λ_ _=>none)
  (λ_=>none)
  (none)
  (λ_ _=>none)
  (none)
  (λ_ _ _ _ _=>none)
  (none)
  (λ_=>none)
  (λ_ _ _ _ _=>none)
  (λ_=>none)
  (λ_ _=>none)
  (none)
  (λ_ _ _=>none)
  (none)
  (λ_ _=>none)
  (λl _=>some l)
  (λ_=>none)
  (λ_ _ _=>none)
  (λ_ _ _=>none)
  (λ_ _ _ _ _=>none)
  ⟨⟩ (λ_ _ _ _=>⟨⟩) v
def pC(v:G):Option (TypeId×G):=
 @G.rec (λ_=>Option (TypeId×G)) (λ_=>PUnit)
  (λ_=>none)
  (λ_ _=>none)
  (λ_=>none)
  (none)
  (λ_ _=>none)
  (none)
  (λ_ _ _ _ _=>none)
  (none)
  (λ_=>none)
  (λ_ _ _ _ _=>none)
  (λ_=>none)
  (λ_ _=>none)
  (none)
  (λt v _=>some (t,v))
  (none)
  (λ_ _=>none)
  (λ_ _=>none)
  (λ_=>none)
  (λ_ _ _=>none)
  (λ_ _ _=>none)
  (λ_ _ _ _ _=>none)
  ⟨⟩ (λ_ _ _ _=>⟨⟩) v
def Q2(v:G):Option (Nat×G):=
 @G.rec (λ_=>Option (Nat×G)) (λ_=>PUnit)
  (λ_=>none)
  (λ_ _=>none)
  (λ_=>none)
  (none)
  (λ_ _=>none)
  (none)
  (λ_ _ _ _ _=>none)
  (none)
  (λ_=>none)
  (λ_ _ _ _ _=>none)
  (λ_=>none)
  (λ_ _=>none)
  (none)
  (λ_ _ _=>none)
  (none)
  (λ_ _=>none)
  (λ_ _=>none)
  (λ_=>none)
  (λ_ _ _=>none)
  (λb v _=>some (b,v))
  (λ_ _ _ _ _=>none)
  ⟨⟩ (λ_ _ _ _=>⟨⟩) v
structure Psl where
 b:Nat
 o:Nat
 q:Nat
 c:Nat
 ex:Bool
def mY(v:G):Option Psl:=
 @G.rec (λ_=>Option Psl) (λ_=>PUnit)
  (λ_=>none)
  (λ_ _=>none)
  (λ_=>none)
  (none)
  (λ_ _=>none)
  (none)
  (λ_ _ _ _ _=>none)
  (none)
  (λ_=>none)
  (λ_ _ _ _ _=>none)
  (λ_=>none)
  (λ_ _=>none)
  (none)
  (λ_ _ _=>none)
  (none)
  (λ_ _=>none)
  (λ_ _=>none)
  (λ_=>none)
  (λ_ _ _=>none)
  (λ_ _ _=>none)
  (λb o q c x=>some ⟨b,o,q,c,x⟩)
  ⟨⟩ (λ_ _ _ _=>⟨⟩) v
def uI(v:G):Option Nat:=
 @G.rec (λ_=>Option Nat) (λ_=>PUnit)
  (λ_=>none)
  (λ_ _=>none)
  (λ_=>none)
  (none)
  (λ_ _=>none)
  (none)
  (λ_ _ _ _ _=>none)
  (none)
  (λr=>some r)
  (λ_ _ _ _ _=>none)
  (λ_=>none)
  (λ_ _=>none)
  (none)
  (λ_ _ _=>none)
  (none)
  (λ_ _=>none)
  (λ_ _=>none)
  (λ_=>none)
  (λ_ _ _=>none)
  (λ_ _ _=>none)
  (λ_ _ _ _ _=>none)
  ⟨⟩ (λ_ _ _ _=>⟨⟩) v
def isNil(v:G):Bool:=
 @G.rec (λ_=>Bool) (λ_=>PUnit)
  (λ_=>false)
  (λ_ _=>false)
  (λ_=>false)
  (true)
  (λ_ _=>false)
  (false)
  (λ_ _ _ _ _=>false)
  (false)
  (λ_=>false)
  (λ_ _ _ _ _=>false)
  (λ_=>false)
  (λ_ _=>false)
  (true)
  (λ_ _ _=>false)
  (true)
  (λ_ _=>false)
  (λ_ _=>false)
  (λ_=>true)
  (λ_ _ _=>false)
  (λ_ _ _=>false)
  (λ_ _ _ _ _=>false)
  ⟨⟩ (λ_ _ _ _=>⟨⟩) v
def kH(v:G):Bool:=
 @G.rec (λ_=>Bool) (λ_=>PUnit)
  (λ_=>false)
  (λ_ _=>false)
  (λ_=>false)
  (false)
  (λ_ _=>false)
  (true)
  (λ_ _ _ _ _=>false)
  (false)
  (λ_=>false)
  (λ_ _ _ _ _=>false)
  (λ_=>false)
  (λ_ _=>false)
  (false)
  (λ_ _ _=>false)
  (false)
  (λ_ _=>false)
  (λ_ _=>false)
  (λ_=>false)
  (λ_ _ _=>false)
  (λ_ _ _=>false)
  (λ_ _ _ _ _=>false)
  ⟨⟩ (λ_ _ _ _=>⟨⟩) v
def wQ(v:G):Bool:=
 @G.rec (λ_=>Bool) (λ_=>PUnit)
  (λ_=>false)
  (λ_ _=>false)
  (λ_=>false)
  (true)
  (λ_ _=>false)
  (false)
  (λ_ _ _ _ _=>false)
  (false)
  (λ_=>false)
  (λ_ _ _ _ _=>false)
  (λ_=>false)
  (λ_ _=>false)
  (false)
  (λ_ _ _=>false)
  (false)
  (λ_ _=>false)
  (λ_ _=>false)
  (λ_=>false)
  (λ_ _ _=>false)
  (λ_ _ _=>false)
  (λ_ _ _ _ _=>false)
  ⟨⟩ (λ_ _ _ _=>⟨⟩) v
def Zh(v:G):Bool:=
 @G.rec (λ_=>Bool) (λ_=>PUnit)
  (λ_=>true)
  (λ_ _=>true)
  (λ_=>true)
  (true)
  (λ_ _=>true)
  (true)
  (λ_ _ _ _ _=>true)
  (true)
  (λ_=>true)
  (λ_ _ _ _ _=>true)
  (λ_=>true)
  (λ_ _=>true)
  (true)
  (λ_ _ _=>true)
  (true)
  (λ_ _=>false)
  (λ_ _=>false)
  (λ_=>true)
  (λ_ _ _=>true)
  (λ_ _ _=>true)
  (λ_ _ _ _ _=>true)
  ⟨⟩ (λ_ _ _ _=>⟨⟩) v
def Yd(v:G):Bool:=
 @G.rec (λ_=>Bool) (λ_=>PUnit)
  (λ_=>false)
  (λ_ _=>false)
  (λ_=>false)
  (false)
  (λ_ _=>false)
  (false)
  (λ_ _ _ _ _=>false)
  (false)
  (λ_=>false)
  (λ_ _ _ _ _=>false)
  (λ_=>false)
  (λ_ _=>false)
  (false)
  (λ_ _ _=>false)
  (false)
  (λ_ _=>false)
  (λ_ _=>false)
  (λ_=>true)
  (λ_ _ _=>false)
  (λ_ _ _=>false)
  (λ_ _ _ _ _=>false)
  ⟨⟩ (λ_ _ _ _=>⟨⟩) v
def zci(v:G):Bool:=
 @G.rec (λ_=>Bool) (λ_=>PUnit)
  (λ_=>false)
  (λ_ _=>false)
  (λ_=>false)
  (false)
  (λ_ _=>false)
  (false)
  (λ_ _ _ _ _=>false)
  (false)
  (λ_=>false)
  (λ_ _ _ _ _=>false)
  (λ_=>false)
  (λ_ _=>false)
  (false)
  (λ_ _ _=>false)
  (false)
  (λ_ _=>false)
  (λ_ _=>false)
  (λ_=>false)
  (λ_ _ _=>true)
  (λ_ _ _=>false)
  (λ_ _ _ _ _=>false)
  ⟨⟩ (λ_ _ _ _=>⟨⟩) v
def zU(v:G):List G:=
 @G.rec (λ_=>List G) (λ_=>PUnit)
  (λb=>[G.bool b])
  (λk n=>[G.int k n])
  (λs=>[G.str s])
  ([G.nilp])
  (λb o=>[G.ptr b o])
  ([G.nilslice])
  (λb o l c x=>[G.slice b o l c x])
  ([G.nilmap])
  (λr=>[G.map r])
  (λf l m _ _=>[G.fn f l m])
  (λl=>[G.yieldf l])
  (λb c=>[G.capv b c])
  ([G.nilfn])
  (λt v _=>[G.iface t v])
  ([G.niliface])
  (λl _=>l)
  (λl _=>[G.tuple l])
  (λi=>[G.sym i])
  (λb o q=>[G.esl b o q])
  (λb v _=>[G.osl b v])
  (λb o q c x=>[G.psl b o q c x])
  ⟨⟩ (λ_ _ _ _=>⟨⟩) v
def mo(k:IntKind):Nat:=@IntKind.rec (λ_=>Nat) 0 1 2 3 4 5 6 7 k
def NI(k j:IntKind):Bool:=Nat.beq (mo k) (mo j)
def bd(a b:Int):Bool:=Qi a (λm=>Qi b (Nat.beq m) λ_=>false) λm=>Qi b (λ_=>false) (Nat.beq m)
def ilt(a b:Int):Bool:=Qi a (λm=>Qi b (Nat.blt m) λ_=>false) λm=>Qi b (λ_=>true) λn=>Nat.blt n m
def iP(l:List Nat):List Nat->Bool:=
 List.rec (motive:=λ_=>List Nat->Bool) (λm=>lC m true λ_ _=>false)
  (λa _ ih m=>lC m false λb m=>ifB (Nat.beq a b) (ih m) false) l
def Hl(a b:Bool):Bool:=ifB a b (ifB b false true)
def kV(a:Bool):Bool:=ifB a false true
def L(a b:Bool):Bool:=ifB a b false
mutual
def qF:G->G->Bool
 | .bool a,.bool b=>Hl a b
 | .int k a,.int j b=>L (NI k j) (bd a b)
 | .str a,.str b=>iP a b
 | .nilp,.nilp|.nilslice,.nilslice|.nilmap,.nilmap|.nilfn,.nilfn|.niliface,.niliface=>true
 | .ptr a b,.ptr c d=>L (Nat.beq a c) (Nat.beq b d)
 | .slice a b c d e,.slice a' b' c' d' e'=>L (Nat.beq a a') (L (Nat.beq b b') (L (Nat.beq c c') (L (Nat.beq d d') (Hl e e'))))
 | .map a,.map b=>Nat.beq a b
 | .fn f a b,.fn g c d=>L (Nat.beq f g) (L (yh a c) (yh b d))
 | .yieldf a,.yieldf b=>Nat.beq a b
 | .capv a b,.capv c d=>L (Nat.beq a c) (Nat.beq b d)
 | .iface t a,.iface u b=>L (Nat.beq t u) (qF a b)
 | .agg a,.agg b=>yh a b
 | .tuple a,.tuple b=>yh a b
 | .sym a,.sym b=>Nat.beq a b
 | .esl a b c,.esl d e f=>L (Nat.beq a d) (L (Nat.beq b e) (Nat.beq c f))
 | .osl a x,.osl b y=>L (Nat.beq a b) (qF x y)
 | .psl a b c d e,.psl a' b' c' d' e'=>L (Nat.beq a a') (L (Nat.beq b b') (L (Nat.beq c c') (L (Nat.beq d d') (Hl e e'))))
 | _,_=>false
def yh:List G->List G->Bool
 | [],[]=>true
 | a::l,b::m=>L (qF a b) (yh l m)
 | _,_=>false
end
def ek{α:Type}(n:Nat):List α->List α:=
 Nat.rec (motive:=λ_=>List α->List α) (λ_=>[]) (λ_ ih l=>lC l [] λa m=>a::ih m) n
def mN{α:Type}(n:Nat):List α->List α:=
 Nat.rec (motive:=λ_=>List α->List α) (λl=>l) (λ_ ih l=>lC l [] λ_ m=>ih m) n
def yG{α:Type}(n:Nat):List α->Option α:=
 Nat.rec (motive:=λ_=>List α->Option α) (λl=>lC l none λa _=>some a) (λ_ ih l=>lC l none λ_ m=>ih m) n
def je{α:Type}(l:List α):Nat->Nat:=List.rec (motive:=λ_=>Nat->Nat) (λn=>n) (λ_ _ ih n=>frc (Nat.succ n) ih) l
def zX{α:Type}(l m:List α):List α:=List.rec m (λa _ ih=>a::ih) l
def mapA{α β:Type}(f:α->β)(l:List α):List β:=List.rec [] (λa _ ih=>f a::ih) l
def Yb(n:Nat):List G->List G->List G:=
 Nat.rec (motive:=λ_=>List G->List G->List G)
  (λm l=>List.rec (motive:=λ_=>List G->List G) (λl=>l) (λa _ ih l=>lC l [] λ_ l=>a::ih l) m l)
  (λ_ ih m l=>lC l [] λa l=>a::ih m l) n
def Jg(z:List G)(n:Nat):List G:=Nat.rec [] (λ_ ih=>zX z ih) n
def Jb(p:G->Bool)(l:List G):Bool:=List.rec true (λa _ ih=>ifB (p a) ih false) l
namespace M
variable{α:Type}
def sf(l:List α):M α->Nat->M α:=
 List.rec (motive:=λ_=>M α->Nat->M α) (λt _=>t) (λa _ ih t i=>frc (Nat.succ i) λj=>ih (t.set i a) j) l
def alt(l:List α):Bool->List α:=List.rec (motive:=λ_=>Bool->List α) (λ_=>[]) (λa _ ih b=>ifB b (a::ih false) (ih true)) l
def build(f:Nat):List α->M α:=Nat.rec (motive:=λ_=>List α->M α) (λ_=>.nil) (λ_ ih l=>lC l .nil λa m=>.node (ih (alt m true)) (some a) (ih (alt m false))) f
def ofList(l:List α):M α:=frc (je l 0) λn=>ifB (Nat.ble n 48) (sf l .nil 0) (build n l)
def lft(t:M α):M α:=M.rec .nil (λl _ _ _ _=>l) t
def rgt(t:M α):M α:=M.rec .nil (λ_ _ r _ _=>r) t
def top(t:M α):Option α:=M.rec none (λ_ v _ _ _=>v) t
def over(u:M α)(lo hi:Nat)(f:Nat):M α->Nat->Nat->M α:=
 Nat.rec (motive:=λ_=>M α->Nat->Nat->M α) (λt _ _=>t)
  (λ_ ih t a s=>ifB (Nat.ble hi a) t (frc (Nat.add a s) λb=>frc (Nat.add s s) λq=>frc (Nat.add b s) λc=>
   .node (ih (lft t) b q) (ifB (Nat.ble lo a) (u.get (Nat.sub a lo)) (top t)) (ih (rgt t) c q))) f
def nC(l:List α)(t:M α)(i:Nat):M α:=
 frc (je l 0) λn=>ifB (Nat.ble n 48) (sf l t i) (frc (Nat.add i n) λh=>over (ofList l) i h (Nat.succ h) t 0 1)
def kX(n:Nat):M α->Nat->Option (List α):=
 Nat.rec (motive:=λ_=>M α->Nat->Option (List α)) (λ_ _=>some [])
  (λ_ ih t i=>bnd (t.get i) λa=>bnd (ih t (Nat.succ i)) λl=>some (a::l)) n
def tX(f:Nat):Nat->M α->Nat->Option (List α):=
 Nat.rec (motive:=λ_=>Nat->M α->Nat->Option (List α)) (λn t i=>kX n t i)
  (λ_ ih n t i=>ifB (Nat.ble n 32) (kX n t i) (frc (Nat.div n 2) λh=>frc (Nat.sub n h) λk=>frc (Nat.add i h) λj=>
   bnd (ih h t i) λl=>bnd (ih k t j) λm=>some (zX l m))) f
def Xu(n:Nat)(t:M α)(i:Nat):Option (List α):=tX 20 n t i
def tree(f:Nat->α)(d:Nat):Nat->Nat->Nat->M α:=
 Nat.rec (motive:=λ_=>Nat->Nat->Nat->M α) (λ_ _ _=>.nil)
  (λ_ ih a s n=>jY n .nil λm=>frc (Nat.add a s) λb=>frc (Nat.add s s) λq=>frc (Nat.add b s) λc=>
   .node (frc (Nat.div (Nat.succ m) 2) λp=>ih b q p) (some (f a)) (frc (Nat.div m 2) λr=>ih c q r)) d
end M
def byteOf(N i:Nat):Nat:=Nat.mod (Nat.shiftRight N (Nat.mul 8 i)) 256
def unp(n N:Nat):M G:=M.tree (λi=>frc (byteOf N i) λb=>.int .u8 (.ofNat b)) n 0 1 n
def XO(l:List Nat):Nat->Nat->Nat:=
 List.rec (motive:=λ_=>Nat->Nat->Nat) (λacc _=>acc) (λb _ ih acc k=>frc (Nat.add acc (Nat.shiftLeft b k)) λacc=>frc (Nat.add k 8) λk=>ih acc k) l
def Xg(N o l:Nat):Nat:=Nat.mod (Nat.shiftRight N (Nat.mul 8 o)) (Nat.shiftLeft 1 (Nat.mul 8 l))
def bt(n S M:Nat):Nat:=Nat.add S (Nat.shiftLeft M (Nat.mul 8 n))
def unp0(n:Nat):Nat->List Nat:=Nat.rec (motive:=λ_=>Nat->List Nat) (λ_=>[]) (λ_ ih N=>frc (Nat.mod N 256) λb=>b::frc (Nat.shiftRight N 8) ih) n
def unpH(f:Nat):Nat->Nat->List Nat:=
 Nat.rec (motive:=λ_=>Nat->Nat->List Nat) (λn N=>unp0 n N)
  (λ_ ih n N=>ifB (Nat.ble n 8) (unp0 n N) (frc (Nat.div n 2) λh=>frc (Nat.sub n h) λk=>zX (frc (Xg N 0 h) λL=>ih h L) (frc (Nat.shiftRight N (Nat.mul 8 h)) λM=>ih k M))) f
def unpB(n:Nat):Nat->List Nat->List Nat:=Nat.rec (motive:=λ_=>Nat->List Nat->List Nat) (λ_ r=>r) (λ_ ih N r=>frc (Nat.mod N 256) λb=>b::frc (Nat.shiftRight N 8) λM=>ih M r) n
def unpA(f:Nat):Nat->Nat->List Nat->List Nat:=
 Nat.rec (motive:=λ_=>Nat->Nat->List Nat->List Nat) (λn N r=>unpB n N r)
  (λ_ ih n N r=>ifB (Nat.ble n 8) (unpB n N r) (frc (Nat.div n 2) λh=>frc (Nat.sub n h) λk=>frc (Xg N 0 h) λL=>ih h L (frc (Nat.shiftRight N (Nat.mul 8 h)) λM=>ih k M r))) f
def unpL(n N:Nat):List Nat:=unpA 20 n N []
inductive X where
 | cells (t:TypeId) (n:Nat) (c:M G)
 | map (es:List (G×G×Nat)) (clock:Nat)
 | loop (st:LoopState) (pend:Option Code) (fn:FuncId) (n:Nat) (T:M G) (ps:Array Tmp) (assign body:Code)
 | siter (s:List Nat) (pos:Nat)
 | text (t:TypeId) (v:G)
 | pack (t:TypeId) (n N:Nat)
 | ints (t:TypeId) (v:G)
 | view (c:M G)
structure Row where
 t:TypeId
 n:Nat
 c:M G
structure Lp where
 st:LoopState
 pend:Option Code
 fn:FuncId
 n:Nat
 T:M G
 ps:Array Tmp
 assign:Code
 body:Code
def Ri(b:X):Option Row:=X.rec (λt n c=>some ⟨t,n,c⟩) (λ_ _=>none) (λ_ _ _ _ _ _ _ _=>none) (λ_ _=>none) (λ_ _=>none) (λt n N=>some ⟨t,n,unp n N⟩) (λ_ _=>none) (λ_=>none) b
def pA(b:X):Option (List (G×G×Nat)×Nat):=X.rec (λ_ _ _=>none) (λes c=>some (es,c)) (λ_ _ _ _ _ _ _ _=>none) (λ_ _=>none) (λ_ _=>none) (λ_ _ _=>none) (λ_ _=>none) (λ_=>none) b
def yC(b:X):Option Lp:=X.rec (λ_ _ _=>none) (λ_ _=>none) (λa b c d e f g h=>some ⟨a,b,c,d,e,f,g,h⟩) (λ_ _=>none) (λ_ _=>none) (λ_ _ _=>none) (λ_ _=>none) (λ_=>none) b
def zeD(b:X):Option (List Nat×Nat):=X.rec (λ_ _ _=>none) (λ_ _=>none) (λ_ _ _ _ _ _ _ _=>none) (λs p=>some (s,p)) (λ_ _=>none) (λ_ _ _=>none) (λ_ _=>none) (λ_=>none) b
def Lp.blk(l:Lp):X:=.loop l.st l.pend l.fn l.n l.T l.ps l.assign l.body
def bD(b:X):Option (TypeId×G):=X.rec (λ_ _ _=>none) (λ_ _=>none) (λ_ _ _ _ _ _ _ _=>none) (λ_ _=>none) (λt v=>some (t,v)) (λ_ _ _=>none) (λ_ _=>none) (λ_=>none) b
structure Heap where
 blk:M X
 next:Nat
inductive Spec where
 | mapsClone
 | indexByte
 | makeNoZero (e:TypeId)
 | same
 | insert
 | compare
 | count
 | fact
structure Seg where
 lo:Nat
 hi:Nat
 cid:Nat
 ai:Nat
 fi:Nat
 ci:Nat
inductive Fact where
 | bin (op:BinOp) (a b r:G)
 | eq (sh:Nat) (a b:G) (r:Bool)
 | conv (k:IntKind) (a r:G)
 | len (a r:G)
 | min (a b r:G)
 | max (a b r:G)
 | sub (a lo hi r:G)
 | call (f:FuncId) (args:List G) (r:G)
 | make (f:FuncId) (args:List G) (N n:Nat) (rows:List (Nat×X)) (r:G)
 | at_ (a:G) (i:Nat) (r:G)
 | pack (l:List G) (r:G)
 | read (f:FuncId) (args:List G) (r:G)
 | memo (f:FuncId) (args:List G) (nx:Nat) (rin rout:List (Nat×X)) (r:G) (nx':Nat)
 | num (q lo hi:Nat)
 | diff (q m r:Nat)
 | callF (g:FuncId->List G->Option G)
 | makeF (g:FuncId->List G->Option (Nat×Nat×List (Nat×X)×G))
 | binF (g:BinOp->G->G->Option G)
 | unF (g:UnOp->G->Option G)
 | slen (a r:G)
 | ssub (a h r:G)
 | memoG (f:FuncId) (N:Nat) (segs:List Seg) (args:List G) (nx:Nat) (rin rout:List (Nat×X)) (r:G) (nx':Nat)
structure Env where
 P:Program
 types:M TypeInfo
 funcs:M Func
 spec:M Spec
 facts:List Fact
 tabs:List (Nat×X)
 alts:M (Nat×List (List (List Fact)))
def Qm(P:Program)(spec:List (FuncId×Spec))(facts:List Fact)(tabs:List (Nat×X)):Env:=
 ⟨P,M.ofList P.types.toList,M.ofList P.funcs.toList,spec.foldl (λt p=>t.set p.1 p.2) .nil,facts,tabs,.nil⟩
def Env.withAlts(E:Env)(f t:Nat)(l:List (List (List Fact))):Env:=⟨E.P,E.types,E.funcs,E.spec,E.facts,E.tabs,M.set .nil f (t,l)⟩
def Env.plus(E:Env)(l:List Fact):Env:=⟨E.P,E.types,E.funcs,E.spec,zX l E.facts,E.tabs,.nil⟩
def jj(l:List (Nat×X)):M X:=List.rec .nil (λp _ ih=>ih.set p.1 p.2) l
def descOf(T:M TypeInfo)(d:TypeDesc):Option TypeDesc:=
 match d with
 | .named _ u=>bnd (T.get u) λj=>some j.desc
 | d=>some d
def Env.desc(E:Env)(t:TypeId):Option TypeDesc:=bnd (E.types.get t) λi=>descOf E.types i.desc
def Env.size(E:Env)(t:TypeId):Option Nat:=bnd (E.types.get t) λi=>some i.size
def zii(d:TypeDesc):Bool:=match d with|.struct _=>true|.array _ _=>true|_=>false
def Env.isAgg(E:Env)(t:TypeId):Option Bool:=bnd (E.desc t) λd=>some (zii d)
def kD(d:TypeDesc):Option TypeId:=match d with|.slice e=>some e|_=>none
def QC(d:TypeDesc):Option (Nat×TypeId):=match d with|.array n e=>some (n,e)|_=>none
def Z3(d:TypeDesc):Option (List Field):=match d with|.struct fs=>some fs.toList|_=>none
def xw(d:TypeDesc):Option TypeId:=match d with|.pointer e=>some e|_=>none
def Wx(d:TypeDesc):Option IntKind:=match d with|.int k=>some k|_=>none
def Gz(d:TypeDesc):Option (TypeId×TypeId):=match d with|.map k e=>some (k,e)|_=>none
def ye(d:TypeDesc):Bool:=match d with|.string=>true|_=>false
def PW(d:TypeDesc):Bool:=match d with|.interface _=>true|_=>false
def oW(d:TypeDesc):Bool:=match d with|.unsafePointer=>true|_=>false
def oB(k:IntKind):Bool:=Nat.beq (mo k) 4
def Wt(k:IntKind):Bool:=Nat.beq (mo k) 3
def zG(s:ByteArray):List Nat:=mapA UInt8.toNat s.data.toList
mutual
def ofV:Nat->Value->Option G
 | 0,_=>none
 | _+1,.bool b=>some (.bool b)
 | _+1,.int k n=>some (.int k n)
 | _+1,.string s=>some (.str (zG s))
 | _+1,.pointer none=>some .nilp
 | _+1,.slice none 0 0=>some .nilslice
 | _+1,.map none=>some .nilmap
 | _+1,.nilFunc=>some .nilfn
 | _+1,.nilIface=>some .niliface
 | n+1,.agg cs=>bnd (wj n cs.toList) λl=>some (.agg l)
 | n+1,.tuple cs=>bnd (wj n cs.toList) λl=>some (.tuple l)
 | _+1,_=>none
def wj:Nat->List Value->Option (List G)
 | 0,_=>none
 | _+1,[]=>some []
 | n+1,v::l=>bnd (ofV n v) λa=>bnd (wj n l) λm=>some (a::m)
end
def Env.zero(E:Env)(t:TypeId):Option G:=bnd (E.types.get t) λi=>bnd i.zero λv=>ofV 5000 v
def Heap.row(H:Heap)(b:Nat):Option Row:=bnd (H.blk.get b) Ri
def zbC(b:X):Option Row:=X.rec (λt n c=>some ⟨t,n,c⟩) (λ_ _=>none) (λ_ _ _ _ _ _ _ _=>none) (λ_ _=>none) (λ_ _=>none) (λ_ _ _=>none) (λ_ _=>none) (λ_=>none) b
def Heap.zbg(H:Heap)(b:Nat):Option Row:=bnd (H.blk.get b) zbC
def zeC(b:X):Option (M G):=X.rec (λ_ _ _=>none) (λ_ _=>none) (λ_ _ _ _ _ _ _ _=>none) (λ_ _=>none) (λ_ _=>none) (λ_ _ _=>none) (λ_ _=>none) (λc=>some c) b
def Heap.tj(H:Heap)(b off:Nat):Option G:=Z (H.row b) (bnd (H.blk.get b) λk=>bnd (zeC k) λc=>c.get off) λr=>r.c.get off
def Heap.yl(H:Heap)(b off n:Nat):Option (List G):=bnd (H.row b) λr=>M.Xu n r.c off
def Heap.put(H:Heap)(b:Nat)(r:Row)(c:M G):Heap:=⟨H.blk.set b (.cells r.t r.n c),H.next⟩
def Heap.Jz(H:Heap)(b off:Nat)(l:List G):Option Heap:=
 bnd (H.row b) λr=>ifB (L (Nat.ble 100 b) (L (Nat.ble (Nat.add off (je l 0)) r.n) (Jb Zh l))) (some (H.put b r (M.nC l r.c off))) none
def Heap.new(H:Heap)(t:TypeId)(l:List G):Heap:=⟨H.blk.set H.next (.cells t (je l 0) (M.ofList l)),Nat.succ H.next⟩
structure Pk where
 t:TypeId
 n:Nat
 N:Nat
def pz(b:X):Option Pk:=X.rec (λ_ _ _=>none) (λ_ _=>none) (λ_ _ _ _ _ _ _ _=>none) (λ_ _=>none) (λ_ _=>none) (λt n N=>some ⟨t,n,N⟩) (λ_ _=>none) (λ_=>none) b
abbrev R:=Option (G×Heap)
def Ql(H:Heap)(v:Option G):R:=bnd v λv=>some (v,H)
def wE(H:Heap)(t:TypeId)(l:List G)(f:Nat->G):R:=frc H.next λm=>some (f m,Heap.new ⟨H.blk,m⟩ t l)
def Env.loadVar(E:Env)(H:Heap)(t:TypeId)(b off:Nat):Option G:=
 bnd (E.isAgg t) λg=>ifB g (bnd (E.size t) λn=>bnd (H.yl b off n) λl=>some (.agg l)) (H.tj b off)
def Env.storeVar(E:Env)(H:Heap)(t:TypeId)(b off:Nat)(v:G):Option Heap:=
 bnd (E.size t) λn=>ifB (Nat.beq (je (zU v) 0) n) (H.Jz b off (zU v)) none
def half(k:IntKind):Nat:=@IntKind.rec (λ_=>Nat) 128 32768 2147483648 9223372036854775808 256 65536 4294967296 18446744073709551616 k
def full(k:IntKind):Nat:=@IntKind.rec (λ_=>Nat) 256 65536 4294967296 18446744073709551616 256 65536 4294967296 18446744073709551616 k
def M5(k:IntKind):Nat:=@IntKind.rec (λ_=>Nat) 8 16 32 64 8 16 32 64 k
def QR(k:IntKind)(n:Int):Nat:=Qi n (λm=>Nat.mod m (full k)) λm=>Nat.sub (Nat.sub (full k) 1) (Nat.mod m (full k))
def back(k:IntKind)(m:Nat):Int:=ifB (Nat.blt m (half k)) (.ofNat m) (.negSucc (Nat.sub (Nat.sub (full k) 1) m))
def Q1(k:IntKind)(n:Int):Int:=back k (QR k n)
def mkInt(k:IntKind)(n:Int):G:=Qi n (λm=>frc m λm=>.int k (.ofNat m)) λm=>frc m λm=>.int k (.negSucc m)
def j7(b:Bool):G:=ifB b (.bool true) (.bool false)
def mkNat(n:Nat):G:=frc n λm=>.int .i64 (.ofNat m)
def Wk{α:Type u}(i:Int)(f:Nat->Option α):Option α:=Qi i f λ_=>none
end
end
section
universe u
noncomputable section
def Sp:G:=.str [256]
def cA(v:G):Bool:=match v with|.str l=>lC l false λa _=>Nat.beq a 256|_=>false
def C8(t:Nat)(T:M G):Option G:=Z (T.get t) (some jo) λv=>ifB (cA v) none (some v)
def zaj(v:Value)(_:M G):Option G:=ofV 5000 v
def PB(g:Nat)(_:M G):Option G:=ifB (Nat.blt g 60) (some (.ptr g 0)) none
def zei(f:Nat)(_:M G):Option G:=some (.fn f [] [])
def ev(T:M G)(o:Operand):Option G:=@Operand.rec (λ_=>M G->Option G) C8 zaj PB zei o T
def evs(T:M G)(l:List Operand):Option (List G):=List.rec (some []) (λo _ ih=>bnd (ev T o) λa=>bnd ih λm=>some (a::m)) l
def oO(T:M G)(l:List (Nat×Operand)):Option (List (Nat×G)):=
 List.rec (some []) (λo _ ih=>bnd (ev T o.2) λa=>bnd ih λm=>some ((o.1,a)::m)) l
def evO(T:M G)(o:Option Operand):Option (Option G):=Z o (some none) λo=>bnd (ev T o) λv=>some (some v)
def XM(m n:Nat):Int:=ifB (Nat.ble n m) (.ofNat (Nat.sub m n)) (.negSucc (Nat.sub (Nat.sub n m) 1))
def zdY(a:Int):Int:=Qi a (λm=>XM 0 m) λm=>.ofNat (Nat.succ m)
def Gd(a b:Int):Int:=
 Qi a (λm=>Qi b (λn=>.ofNat (Nat.add m n)) λn=>XM m (Nat.succ n))
  λm=>Qi b (λn=>XM n (Nat.succ m)) λn=>.negSucc (Nat.succ (Nat.add m n))
def TG(a b:Int):Int:=Gd a (zdY b)
def wU(a b:Int):Int:=
 Qi a (λm=>Qi b (λn=>.ofNat (Nat.mul m n)) λn=>XM 0 (Nat.mul m (Nat.succ n)))
  λm=>Qi b (λn=>XM 0 (Nat.mul (Nat.succ m) n)) λn=>.ofNat (Nat.mul (Nat.succ m) (Nat.succ n))
def NM(a b:Int):Int:=
 Qi a (λm=>Qi b (λn=>.ofNat (Nat.div m n)) λn=>XM 0 (Nat.div m (Nat.succ n)))
  λm=>Qi b (λn=>XM 0 (Nat.div (Nat.succ m) n)) λn=>.ofNat (Nat.div (Nat.succ m) (Nat.succ n))
def tE(a b:Int):Int:=
 Qi a (λm=>Qi b (λn=>.ofNat (Nat.mod m n)) λn=>.ofNat (Nat.mod m (Nat.succ n)))
  λm=>Qi b (λn=>XM 0 (Nat.mod (Nat.succ m) n)) λn=>XM 0 (Nat.mod (Nat.succ m) (Nat.succ n))
abbrev IOp:=IntKind->Int->IntKind->Int->Option G
def same(k j:IntKind)(v:G):Option G:=ifB (NI k j) (some v) none
def zjm:IOp:=λk a j b=>same k j (mkInt k (Q1 k (Gd a b)))
def zi9:IOp:=λk a j b=>same k j (mkInt k (Q1 k (TG a b)))
def zjf:IOp:=λk a j b=>same k j (mkInt k (Q1 k (wU a b)))
def zjd:IOp:=λk a j b=>ifB (bd b (.ofNat 0)) none (same k j (mkInt k (Q1 k (NM a b))))
def zjc:IOp:=λk a j b=>ifB (bd b (.ofNat 0)) none (same k j (mkInt k (tE a b)))
def zjl:IOp:=λk a j b=>same k j (mkInt k (back k (land (QR k a) (QR k b))))
def iOr:IOp:=λk a j b=>same k j (mkInt k (back k (lor (QR k a) (QR k b))))
def zi8:IOp:=λk a j b=>same k j (mkInt k (back k (Nat.xor (QR k a) (QR k b))))
def TT:IOp:=λk a j b=>same k j (mkInt k (back k (land (QR k a) (Nat.xor (QR k b) (Nat.sub (full k) 1)))))
def shN(k:IntKind)(y:Nat):Nat:=ifB (Nat.ble y (M5 k)) y (M5 k)
def zjb:IOp:=λk a _ b=>Wk b λy=>some (mkInt k (Q1 k (wU a (.ofNat (Nat.pow 2 (shN k y))))))
def zja:IOp:=λk a _ b=>Wk b λy=>some (mkInt k (Qi a (λm=>.ofNat (Nat.div m (Nat.pow 2 (shN k y)))) λm=>.negSucc (Nat.div m (Nat.pow 2 (shN k y)))))
def zjk:IOp:=λk a j b=>same k j (j7 (bd a b))
def zje:IOp:=λk a j b=>same k j (j7 (kV (bd a b)))
def zjg:IOp:=λk a j b=>same k j (j7 (ilt a b))
def zjh:IOp:=λk a j b=>same k j (j7 (kV (ilt b a)))
def zji:IOp:=λk a j b=>same k j (j7 (ilt b a))
def zjj:IOp:=λk a j b=>same k j (j7 (kV (ilt a b)))
def YV(op:BinOp):IOp:=@BinOp.rec (λ_=>IOp) zjm zi9 zjf zjd zjc zjl iOr zi8 zjb zja TT zjk zje zjg zjh zji zjj op
def Uu(l:List Nat):List Nat->Bool:=
 List.rec (motive:=λ_=>List Nat->Bool) (λm=>lC m false λ_ _=>true)
  (λa _ ih m=>lC m false λb m=>ifB (Nat.blt a b) true (ifB (Nat.beq a b) (ih m) false)) l
abbrev SOp:=List Nat->List Nat->Option G
def VH:SOp:=λ_ _=>none
def ziS:SOp:=λa b=>ifB (Nat.ble (je a (je b 0)) 1000000000) (some (.str (zX a b))) none
def ziR:SOp:=λa b=>some (j7 (iP a b))
def ziM:SOp:=λa b=>some (j7 (kV (iP a b)))
def ziN:SOp:=λa b=>some (j7 (Uu a b))
def ziO:SOp:=λa b=>some (j7 (kV (Uu b a)))
def ziP:SOp:=λa b=>some (j7 (Uu b a))
def ziQ:SOp:=λa b=>some (j7 (kV (Uu a b)))
def zb4(op:BinOp):SOp:=@BinOp.rec (λ_=>SOp) ziS VH VH VH VH VH VH VH VH VH VH ziR ziM ziN ziO ziP ziQ op
def MD(op:BinOp):Nat:=@BinOp.rec (λ_=>Nat) 0 1 2 3 4 5 6 7 8 9 10 11 12 13 14 15 16 op
def findF{α:Type}(p:Fact->Option α)(l:List Fact):Option α:=List.rec none (λf _ ih=>Z (p f) ih some) l
def fx(op:BinOp)(a b:G)(f:Fact):Option G:=match f with|.bin o x y r=>ifB (L (Nat.beq (MD op) (MD o)) (L (qF a x) (qF b y))) (some r) none|.binF g=>g op a b|_=>none
def mUn(op:UnOp)(a:G)(f:Fact):Option G:=match f with|.unF g=>g op a|_=>none
def mEq(sh:Nat)(a b:G)(f:Fact):Option Bool:=match f with|.eq h x y r=>ifB (L (Nat.beq sh h) (L (qF a x) (qF b y))) (some r) none|_=>none
def Nu(k:IntKind)(a:G)(f:Fact):Option G:=match f with|.conv j x r=>ifB (L (NI k j) (qF a x)) (some r) none|_=>none
def iN(a:G)(f:Fact):Option G:=match f with|.len x r=>ifB (qF a x) (some r) none|_=>none
def zdM(a b:G)(f:Fact):Option G:=match f with|.min x y r=>ifB (L (qF a x) (qF b y)) (some r) none|_=>none
def zdN(a b:G)(f:Fact):Option G:=match f with|.max x y r=>ifB (L (qF a x) (qF b y)) (some r) none|_=>none
def Nh(a l h:G)(f:Fact):Option G:=match f with|.sub x y z r=>ifB (L (qF a x) (L (qF l y) (qF h z))) (some r) none|_=>none
def Nl(a:G)(f:Fact):Option G:=match f with|.slen x r=>ifB (qF a x) (some r) none|_=>none
def Nj(a h:G)(f:Fact):Option G:=match f with|.ssub x y r=>ifB (L (qF a x) (qF h y)) (some r) none|_=>none
def tf(g:FuncId)(as:List G)(f:Fact):Option G:=match f with|.call h bs r=>ifB (L (Nat.beq g h) (yh as bs)) (some r) none|.callF p=>p g as|_=>none
def mAt(a:G)(i:Nat)(f:Fact):Option G:=match f with|.at_ x j r=>ifB (L (qF a x) (Nat.beq i j)) (some r) none|_=>none
def CG(l:List G)(f:Fact):Option G:=match f with|.pack m r=>ifB (yh l m) (some r) none|_=>none
def shapeOf(d:TypeDesc):Option Nat:=match d with|.int _=>some 1|.string=>some 2|.bool=>some 3|_=>none
def Ix(E:Env)(t:TypeId)(a b:G):Option Bool:=bnd (E.desc t) λd=>bnd (shapeOf d) λsh=>findF (mEq sh a b) E.facts
def Env.apart(E:Env)(t:TypeId)(cs:List G)(off:Nat):Option G:=
 bnd (E.isAgg t) λg=>ifB g (bnd (E.size t) λn=>some (.agg (ek n (mN off cs)))) (yG off cs)
mutual
def YC(E : Env)(H : Heap) : Nat -> TypeId -> G -> G -> Option Bool
  | 0, _, _, _ => none
  | f + 1, t, x, y => ifB (L (kV (Yd x)) (kV (Yd y)))
   (match E.desc t, x, y with
    | some .bool, .bool a, .bool b => some (Hl a b)
    | some (.int _), .int k a, .int j b => match NI k j with|true => some (bd a b)|false => none
    | some .string, .str a, .str b => some (iP a b)
    | some (.pointer _), .nilp, .nilp => some true
    | some (.pointer _), .nilp, .ptr _ _ => some false
    | some (.pointer _), .ptr _ _, .nilp => some false
    | some (.pointer e), .ptr a i, .ptr b j =>
      match E.size e with
      | none => none
      | some 0 => none
      | some (_ + 1) =>
        match H.row a, H.row b with
        | some _, some _ => match Nat.beq a b with|true => some (Nat.beq i j)|false => none
        | _, _ => none
    | some (.map _ _), .nilmap, .nilmap => some true
    | some (.map _ _), .nilmap, .map _ => some false
    | some (.map _ _), .map _, .nilmap => some false
    | some (.slice _), .nilslice, .nilslice => some true
    | some (.slice _), .nilslice, .slice _ _ _ _ _ => some false
    | some (.slice _), .slice _ _ _ _ _, .nilslice => some false
    | some (.slice _), .nilslice, .esl _ _ _ => some false
    | some (.slice _), .esl _ _ _, .nilslice => some false
    | some (.slice _), .nilslice, .osl _ _ => some false
    | some (.slice _), .osl _ _, .nilslice => some false
    | some (.slice _), .nilslice, .psl _ _ _ _ _ => some false
    | some (.slice _), .psl _ _ _ _ _, .nilslice => some false
    | some (.func _ _ _), .nilfn, .nilfn => some true
    | some (.func _ _ _), .nilfn, .fn _ _ _ => some false
    | some (.func _ _ _), .fn _ _ _, .nilfn => some false
    | some (.interface _), .niliface, .niliface => some true
    | some (.interface _), .niliface, .iface _ _ => some false
    | some (.interface _), .iface _ _, .niliface => some false
    | some (.interface _), .iface ta va, .iface tb vb =>
      match Nat.beq ta tb with
      | false => some false
      | true =>
        match E.types.get ta with
        | none => none
        | some i => match i.comparable with|true => YC E H f ta va vb|false => none
    | some (.struct fs), .agg xs, .agg ys => match E.P.stoodInHeld t with|true => none|false => Jv E H f fs.toList xs ys
    | some (.array n e), .agg xs, .agg ys =>
      match E.size e with
      | none => none
      | some s => Y9 E H f e s (List.range n) xs ys
    | _, _, _ => none) (Ix E t x y)
def Jv(E:Env)(H:Heap):Nat->List Field->List G->List G->Option Bool
 | 0,_,_,_=>none
 | _+1,[],_,_=>some true
 | f+1,d::ds,xs,ys=>
  ifB (d.name == "_") none (bnd (E.apart d.type xs d.offset) λa=>bnd (E.apart d.type ys d.offset) λb=>
   bnd (YC E H f d.type a b) λr=>ifB r (Jv E H f ds xs ys) (some false))
def Y9(E:Env)(H:Heap):Nat->TypeId->Nat->List Nat->List G->List G->Option Bool
 | 0,_,_,_,_,_=>none
 | _+1,_,_,[],_,_=>some true
 | f+1,e,s,i::is,xs,ys=>
  bnd (E.apart e xs (Nat.mul i s)) λa=>bnd (E.apart e ys (Nat.mul i s)) λb=>
   bnd (YC E H f e a b) λr=>ifB r (Y9 E H f e s is xs ys) (some false)
end
def isConst(o:Operand):Bool:=match o with|.const _=>true|_=>false
def mL(E:Env)(t:TypeId)(x y:Operand)(a:G):Bool:=
 match a with
 | .niliface=>ifB (isConst x) true (isConst y)
 | .agg _=>kV (E.P.eqGuardType E.P.depth t)
 | _=>true
def zju(E:Env)(H:Heap)(t:TypeId)(x y:Operand)(a b:G)(f:Bool->Bool):Option G:=
 ifB (mL E t x y a) (bnd (YC E H 10000 t a b) λr=>some (j7 (f r))) none
def C9(op:BinOp):Option (Bool->Bool):=match op with|.eql=>some (λb=>b)|.neq=>some kV|_=>none
def zch(op:BinOp):Bool:=match op with|.gtr=>true|_=>false
def zct(op:BinOp)(m:Int)(b:G):Option G:=
 match b with
 | .capv _ c=>ifB (zch op) (Wk m λm=>ifB (Nat.ble m c) (some (.bool false)) none) none
 | _=>none
def zik(E:Env)(H:Heap)(op:BinOp)(t:TypeId)(x y:Operand)(a b:G):Option G:=
 bnd (C9 op) λf=>zju E H t x y a b f
def zcy(E:Env)(H:Heap)(op:BinOp)(t:TypeId)(x y:Operand)(a b:G):Option G:=
 Z (js a) (zik E H op t x y a b) λm=>bnd (js b) λn=>zb4 op m n
def zil(op:BinOp)(k:IntKind)(m:Int)(b:G):Option G:=ifB (Wt k) (zct op m b) none
def vr(E:Env)(op:BinOp)(t:TypeId)(a b:G):Option G:=
 Z (findF (fx op a b) E.facts) (bnd (C9 op) λf=>bnd (Ix E t a b) λr=>some (j7 (f r))) some
def zeL(E : Env)(H : Heap)(op : BinOp)(t : TypeId)(x y : Operand)(a b : G) : Option G := ifB (L (kV (Yd a)) (kV (Yd b)))
 (  Z (asInt a) (zcy E H op t x y a b) λp => Z (asInt b) (zil op p.1 p.2 b) λq => YV op p.1 p.2 q.1 q.2) (vr E op t a b)
def inB{α:Type u}(i:Int)(n:Nat)(f:Nat->Option α):Option α:=Qi i (λm=>ifB (Nat.blt m n) (f m) none) λ_=>none
def jJ{α:Type u}(v:Option G)(dflt most:Nat)(f:Nat->Option α):Option α:=
 Z v (f dflt) λv=>bnd (WL v) λi=>Wk i λm=>ifB (Nat.ble m most) (f m) none
def Vr(v:G):Option Nat:=bnd (asInt v) λp=>ifB (oB p.1) (Wk p.2 λn=>some (Nat.mod n 256)) none
def UR(p:G->Option Nat)(l:List G):List Nat->Option (List Nat):=List.rec (motive:=λ_=>List Nat->Option (List Nat)) (λacc=>some acc) (λv _ ih acc=>bnd (p v) λb=>ih (b::acc)) l
def SJ(l:List Nat):List Nat->List Nat:=List.rec (motive:=λ_=>List Nat->List Nat) (λacc=>acc) (λa _ ih acc=>frc 0 λ_=>ih (a::acc)) l
def Y4(p:G->Option Nat)(l:List G):Option (List Nat):=bnd (UR p l []) λr=>some (SJ r [])
def US(l:List G):Option (List Nat):=Y4 Vr l
def u8(b:Nat):G:=.int .u8 (.ofNat b)
def vq(E:Env)(x:G)(lo hi mx:Option G):Option G:=
 Z mx (Z hi none λh=>Z lo (findF (Nh x (.int .i64 (.ofNat 0)) h) E.facts) λl=>findF (Nh x l h) E.facts) λ_=>none
def II(s:List Nat)(lo hi mx:Option G):Option G:=
 Z mx (jJ hi (je s 0) (je s 0) λh=>jJ lo 0 h λl=>some (.str (mN l (ek h s)))) λ_=>none
def Us(b off h l m sz:Nat)(ex:Bool):Option G:=
 ifB (Nat.beq m l)
  (ifB ex (some (.slice b off (Nat.sub h l) (Nat.sub m l) true)) (frc (Nat.add off (Nat.mul l sz)) λo=>some (.esl b off o)))
  (frc (Nat.add off (Nat.mul l sz)) λo=>frc (Nat.sub h l) λn=>frc (Nat.sub m l) λc=>some (.slice b o n c ex))
def Ub(s:Sl)(sz:Nat)(lo hi mx:Option G):Option G:=
 jJ mx s.cap s.cap λm=>jJ hi s.len m λh=>jJ lo 0 h λl=>Us s.b s.off h l m sz (Z mx s.ex λ_=>true)
def rU(lo hi mx:Option G):Option G:=
 jJ mx 0 0 λm=>jJ hi 0 m λh=>jJ lo 0 h λ_=>some .nilslice
def IK(n sz b off:Nat)(lo hi mx:Option G):Option G:=
 jJ mx n n λm=>jJ hi n m λh=>jJ lo 0 h λl=>Us b off h l m sz true
def isZ(o:Option G):Bool:=Z o true λv=>Z (WL v) false λi=>bd i (.ofNat 0)
def IJ(b:Nat)(v:G)(lo hi mx:Option G):Option G:=
 ifB (isZ lo) (Z mx (Z hi (some (.osl b v)) λ_=>none) λ_=>Z hi none λ_=>ifB (L (isZ mx) (isZ hi)) (some (.slice b 0 0 0 true)) none) none
def mX(v:G):Option Nat:=match v with|.sym i=>some i|_=>none
def Np(q:Nat)(f:Fact):Option (Nat×Nat):=match f with|.num p lo hi=>ifB (Nat.beq q p) (some (lo,hi)) none|_=>none
def Ns(q m:Nat)(f:Fact):Option Nat:=match f with|.diff p k r=>ifB (L (Nat.beq q p) (Nat.beq m k)) (some r) none|_=>none
def rT(E:Env)(s:Sl)(lo hi mx:Option G):Option G:=
 Z mx (bnd hi λh=>bnd (mX h) λq=>bnd (findF (Np q) E.facts) λn=>ifB (L (isZ lo) (L (Nat.blt 0 s.cap) (Nat.ble n.2 s.cap))) (some (.psl s.b s.off q s.cap s.ex)) none) λ_=>none
def eB(E:Env)(p:Psl)(sz:Nat)(lo hi mx:Option G):Option G:=
 Z mx
  (Z hi
   (ifB (L (isZ lo) (Nat.blt 0 p.c)) (some (.psl p.b p.o p.q p.c p.ex))
    (bnd lo λl=>bnd (WL l) λi=>Wk i λm=>bnd (findF (Np p.q) E.facts) λn=>ifB (L (Nat.blt m p.c) (Nat.ble m n.1))
     (bnd (findF (Ns p.q m) E.facts) λq=>frc (Nat.add p.o (Nat.mul m sz)) λo=>frc (Nat.sub p.c m) λc=>some (.psl p.b o q c p.ex)) none))
   λh=>jJ (some h) 0 p.c λk=>jJ lo 0 k λl=>Us p.b p.o k l p.c sz p.ex)
  λ_=>none
def rS(E:Env)(x:G)(lo hi mx:Option G):Option G:=
 Z mx (ifB (isZ lo) (bnd hi λh=>findF (Nj x h) E.facts) none) λ_=>none
def zbB(E:Env)(t:TypeId)(x:G)(lo hi mx:Option G):Option G:=
 bnd (E.desc t) λd=>
  Z (kD d)
   (Z (QC d)
    (ifB (ye d) (Z (js x) (vq E x lo hi mx) λs=>II s lo hi mx) none)
    λq=>bnd (E.size q.2) λsz=>bnd (Yk x) λp=>IK q.1 sz p.1 p.2 lo hi mx)
   λe=>bnd (E.size e) λsz=>Z (yp x) (ifB (kH x) (rU lo hi mx) (Z (Q2 x) (Z (mY x) (rS E x lo hi mx) λp=>eB E p sz lo hi mx) λp=>IJ p.1 p.2 lo hi mx)) λs=>Z (bnd hi mX) (Ub s sz lo hi mx) λ_=>rT E s lo hi mx
def ML(hi mx:Option G):Bool:=Z mx true λ_=>Z hi false λ_=>true
def Rf(E:Env)(t:TypeId)(x:G)(lo hi mx:Option G):Option G:=
 ifB (ML hi mx) (zbB E t x lo hi mx) none
def Zk(H:Heap)(sz:Nat)(x:G):Option (Nat×List G):=
 Z (yp x)
  (Z (js x) (ifB (kH x) (some (0,[])) none) λs=>some (je s 0,mapA u8 s))
  λs=>bnd (H.yl s.b s.off (Nat.mul s.len sz)) λl=>some (s.len,l)
def roomy(n bytes:Nat):Bool:=L (Nat.ble (Nat.mul n bytes) 1000000000) (Nat.ble n 1000000000)
def Ja(H:Heap)(e:TypeId)(n:Nat)(l:List G):R:=ifB (Jb Zh l) (frc n λn=>wE H e l λm=>.slice m 0 n n false) none
def Z8(H:Heap)(e:TypeId)(sz:Nat)(s:Sl)(n:Nat)(new:List G):R:=
 bnd (H.row s.b) λr=>bnd (M.Xu (Nat.mul s.len sz) r.c s.off) λold=>
  ifB s.ex (Ja H e (Nat.add s.len n) (zX old new))
   (ifB (L (Nat.ble 100 s.b) (L (Nat.beq r.t e) (L (Nat.beq (Nat.mod s.off sz) 0) (Nat.beq (Nat.add s.off (Nat.mul s.cap sz)) r.n)))) (Ja ⟨H.blk.del s.b,H.next⟩ e (Nat.add s.len n) (zX old new)) none)
def tight(t:M G):Nat->Bool:=
 M.rec (motive:=λ_=>Nat->Bool) (λn=>Nat.beq n 0)
  (λ_ v _ il ir n=>jY n false λm=>Z v false λa=>ifB (Zh a) (frc (Nat.div (Nat.succ m) 2) λp=>frc (Nat.div m 2) λq=>ifB (il p) (ir q) false) false) t
def dS(H:Heap)(e:TypeId)(n N:Nat)(c:M G)(new:List G):R:=
 ifB (Jb Zh new) (frc n λn=>frc H.next λm=>frc (Nat.add N (je new 0)) λk=>some (.slice m 0 n n false,⟨H.blk.set m (.cells e k (M.nC new c N)),Nat.succ m⟩)) none
def pG(H:Heap)(e:TypeId)(sz:Nat)(s:Sl)(n:Nat)(new:List G):R:=
 bnd (H.row s.b) λr=>frc (Nat.mul s.len sz) λN=>ifB (L (Nat.beq s.off 0) (tight r.c N))
  (ifB s.ex (dS H e (Nat.add s.len n) N r.c new)
   (ifB (L (Nat.ble 100 s.b) (L (Nat.beq r.t e) (L (Nat.beq (Nat.mod s.off sz) 0) (Nat.beq (Nat.add s.off (Nat.mul s.cap sz)) r.n)))) (dS ⟨H.blk.del s.b,H.next⟩ e (Nat.add s.len n) N r.c new) none))
  (Z8 H e sz s n new)
def Rq(H:Heap)(sz:Nat)(s:Sl)(n:Nat)(new:List G):R:=
 bnd (H.Jz s.b (Nat.add s.off (Nat.mul s.len sz)) new) λH'=>frc (Nat.add s.len n) λm=>some (.slice s.b s.off m s.cap s.ex,H')
def yI(E:Env)(e:TypeId)(sz:Nat):Bool:=Z (E.zero e) false λz=>Nat.beq (je (zU z) 0) sz
def bF(E:Env)(H:Heap)(e:TypeId)(i:TypeInfo)(s:G)(n:Nat)(new:List G):R:=
 Z (yp s)
  (ifB (kH s) (jY n (some (.nilslice,H)) λ_=>ifB (L (yI E e i.size) (roomy n i.bytes)) (Ja H e n new) none) none)
  λq=>ifB (Nat.ble (Nat.add q.len n) q.cap) (Rq H i.size q n new)
   (ifB (L (yI E e i.size) (roomy (Nat.add q.len n) i.bytes)) (Z8 H e i.size q n new) none)
def Rp(E:Env)(H:Heap)(e:TypeId)(i:TypeInfo)(s:G)(n:Nat)(new:List G):R:=
 Z (yp s)
  (ifB (kH s) (jY n (some (.nilslice,H)) λ_=>ifB (L (yI E e i.size) (roomy n i.bytes)) (Ja H e n new) none) none)
  λq=>ifB (Nat.ble (Nat.add q.len n) q.cap) (Rq H i.size q n new)
   (ifB (L (yI E e i.size) (roomy (Nat.add q.len n) i.bytes)) (pG H e i.size q n new) none)
def isInt(d:TypeDesc):Bool:=match d with|.int _=>true|_=>false
def Hp(E:Env)(e:TypeId)(i:TypeInfo)(x:G):Option (Nat×List G):=
 bnd (asInt x) λq=>ifB (Wt q.1) (Wk q.2 λn=>ifB (roomy n i.bytes)
  (bnd (E.zero e) λz=>ifB (Nat.beq (je (zU z) 0) i.size) (some (n,Jg (zU z) n)) none) none) none
def UT(v:G):Option Nat:=bnd (asInt v) λp=>ifB (oB p.1) (Wk p.2 λn=>ifB (Nat.blt n 256) (some n) none) none
def QY(l:List G):Option (List Nat):=Y4 UT l
def pkL(H:Heap)(q:Sl):Option (List Nat):=
 bnd (H.blk.get q.b) λb=>bnd (pz b) λp=>ifB (Nat.ble (Nat.add q.off q.len) p.n) (frc (Xg p.N q.off q.len) λN=>some (unpL q.len N)) none
def Xf(E:Env)(H:Heap)(x:G):Option G:=
 Z (Q2 x)
  (Z (yp x)
   (ifB (kH x) (some (.str [])) (ifB (Yd x) (bnd (findF (iN x) E.facts) λ_=>some x) (bnd (js x) λ_=>some x)))
   λs=>Z (pkL H s) (ifB (Nat.beq s.len 0) (some (.str [])) (bnd (H.yl s.b s.off s.len) λcs=>Z (QY cs) (findF (CG cs) E.facts) λl=>some (.str l))) λl=>some (.str l))
  λp=>bnd (H.blk.get p.1) λb=>bnd (bD b) λq=>ifB (qF q.2 p.2) (some p.2) none
def UF(v:G):Bool:=Z (js v) false λs=>lC s true λ_ _=>false
def zbt(E:Env)(a b:G):Option G:=
 ifB (UF a) (some b) (Z (js a) (findF (fx .add a b) E.facts) λs=>Z (js b) (findF (fx .add a b) E.facts) λt=>some (.str (zX s t)))
def rP(E:Env)(v:G):Bool:=Z (js v) (Z (findF (mEq 2 v (.str [])) E.facts) false kV) λs=>lC s false λ_ _=>true
def nG(E:Env)(v:G):Bool:=
 Z (js v) (Z (findF (iN v) E.facts) false λl=>Z (asInt l) (Z (findF (fx .gtr l (.int .i64 (.ofNat 1000000000))) E.facts) false λr=>Z (asBool r) false kV) λp=>kV (ilt (.ofNat 1000000000) p.2)) λs=>Nat.ble (je s 0) 1000000000
def zdt(H:Heap)(e:TypeId)(c:G):R:=frc H.next λm=>some (.osl m c,⟨H.blk.set m (.text e c),Nat.succ m⟩)
def Dd(H:Heap)(e:TypeId)(s:G):Option Heap:=
 Z (Q2 s)
  (Z (yp s) (ifB (kH s) (some H) none)
   λq=>ifB q.ex (ifB (Nat.beq q.len q.cap) (some H) none)
    (bnd (H.row q.b) λr=>ifB (L (Nat.ble 100 q.b) (L (Nat.beq r.t e) (L (Nat.beq q.off 0) (Nat.beq q.cap r.n)))) (some ⟨H.blk.del q.b,H.next⟩) none))
  λp=>bnd (H.blk.get p.1) λb=>bnd (bD b) λq=>ifB (L (Nat.ble 100 p.1) (Nat.beq q.1 e)) (some ⟨H.blk.del p.1,H.next⟩) none
def zeF(E:Env)(H:Heap)(e:TypeId)(s x:G):R:=
 bnd (E.desc e) λd=>bnd (Wx d) λk=>bnd (E.types.get e) λi=>ifB (L (oB k) (L (Nat.beq i.size 1) (L (Nat.beq i.bytes 1) (yI E e 1))))
  (bnd (Xf E H s) λa=>bnd (Xf E H x) λb=>bnd (Dd H e s) λH'=>ifB (UF b) (some (s,H))
   (ifB (rP E b) (bnd (zbt E a b) λc=>ifB (nG E c) (zdt H' e c) none) none)) none
def pB(b:X):Option (TypeId×G):=X.rec (λ_ _ _=>none) (λ_ _=>none) (λ_ _ _ _ _ _ _ _=>none) (λ_ _=>none) (λ_ _=>none) (λ_ _ _=>none) (λt v=>some (t,v)) (λ_=>none) b
def vK(E:Env)(v:G):Bool:=
 Z (js v) (Z (findF (iN v) E.facts) false λl=>Z (findF (fx .gtr l (.int .i64 (.ofNat 100000000))) E.facts) false λr=>Z (asBool r) false kV) λs=>Nat.ble (je s 0) 100000000
def zfN(H:Heap)(e:TypeId)(c:G):R:=frc H.next λm=>some (.osl m c,⟨H.blk.set m (.ints e c),Nat.succ m⟩)
def zif(E:Env)(H:Heap)(e:TypeId)(s x:G):R:=
 bnd (E.desc e) λd=>bnd (Wx d) λk=>bnd (E.types.get e) λi=>ifB (L (Wt k) (L (Nat.beq i.size 1) (L (Nat.ble i.bytes 8) (yI E e 1))))
  (bnd (yp s) λq=>ifB (L q.ex (Nat.beq q.cap 0)) (bnd (Q2 x) λp=>bnd (H.blk.get p.1) λb=>bnd (pB b) λr=>
   ifB (L (qF r.2 p.2) (L (rP E p.2) (vK E p.2))) (zfN H e p.2) none) none) none
def NQ(_:Heap)(x:G):Bool:=ifB (Yd x) true (Z (Q2 x) false λ_=>true)
def bI(E:Env)(H:Heap)(sT xT:TypeId)(s x:G):R:=
 bnd (E.desc sT) λd=>bnd (kD d) λe=>bnd (E.desc xT) λxd=>
  (bnd (E.types.get e) λi=>bnd (ifB (isInt xd) (Hp E e i x) (Zk H i.size x)) λp=>ifB (Nat.beq (je p.2 0) (Nat.mul p.1 i.size)) (bF E H e i s p.1 p.2) none)
def uX(E:Env)(H:Heap)(sT xT:TypeId)(s x:G):R:=
 bnd (E.desc sT) λd=>bnd (kD d) λe=>bnd (E.desc xT) λxd=>
  (bnd (E.types.get e) λi=>bnd (ifB (isInt xd) (Hp E e i x) (Zk H i.size x)) λp=>ifB (Nat.beq (je p.2 0) (Nat.mul p.1 i.size)) (Rp E H e i s p.1 p.2) none)
def pvS(H:Heap)(q:Sl):Option (Nat×Nat):=
 bnd (H.blk.get q.b) λb=>Z (pz b)
  (bnd (H.yl q.b q.off q.len) λl=>bnd (QY l) λbs=>some (q.len,XO bs 0 0))
  λp=>ifB (Nat.ble (Nat.add q.off q.len) p.n) (some (q.len,Xg p.N q.off q.len)) none
def pv(H:Heap)(x:G):Option (Nat×Nat):=
 Z (yp x) (ifB (kH x) (some (0,0)) (bnd (js x) λs=>some (je s 0,XO s 0 0))) λq=>pvS H q
def Uk(H:Heap)(e:TypeId)(n N:Nat):R:=frc n λn=>frc N λN=>frc H.next λm=>some (.slice m 0 n n false,⟨H.blk.set m (.pack e n N),Nat.succ m⟩)
def My(H:Heap)(q:Sl)(m M:Nat):R:=
 bnd (H.blk.get q.b) λb=>bnd (pz b) λp=>frc (Nat.add q.off q.len) λo=>ifB (L (Nat.ble 100 q.b) (Nat.ble (Nat.add o m) p.n))
  (frc (bt o (Xg p.N 0 o) (bt m M (Nat.shiftRight p.N (Nat.mul 8 (Nat.add o m))))) λN=>frc (Nat.add q.len m) λl=>some (.slice q.b q.off l q.cap q.ex,⟨H.blk.set q.b (.pack p.t p.n N),H.next⟩)) none
def vV(H : Heap)(e : TypeId)(s : G)(p : Nat × Nat) : R :=
    Z (yp s) (ifB (kH s) (jY p.1 none λ_ => ifB (roomy p.1 1) (Uk H e p.1 p.2) none) none)
      λq => ifB (Nat.ble (Nat.add q.len p.1) q.cap) (My H q p.1 p.2)
        (ifB (roomy (Nat.add q.len p.1) 1) (bnd (pvS H q) λa => frc (bt q.len a.2 p.2) λN => ifB q.ex (Uk H e (Nat.add q.len p.1) N)
          (bnd (H.row q.b) λr => ifB (L (Nat.ble 100 q.b) (L (Nat.beq r.t e) (Nat.beq (Nat.add q.off q.cap) r.n))) (Uk ⟨H.blk.del q.b, H.next⟩ e (Nat.add q.len p.1) N) none)) none)
def pvN(E:Env)(e:TypeId)(x:G):Option (Nat×Nat):=
 bnd (asInt x) λq=>ifB (Wt q.1) (Wk q.2 λn=>ifB (roomy n 1) (bnd (E.zero e) λz=>ifB (qF z (u8 0)) (some (n,0)) none) none) none
def nT(E:Env)(H:Heap)(sT xT:TypeId)(s x:G):R:=
 bnd (E.desc sT) λd=>bnd (kD d) λe=>bnd (E.desc xT) λxd=>bnd (E.types.get e) λi=>bnd (E.desc e) λed=>bnd (Wx ed) λk=>
  ifB (L (oB k) (L (Nat.beq i.size 1) (L (Nat.beq i.bytes 1) (yI E e 1)))) (bnd (ifB (isInt xd) (pvN E e x) (pv H x)) λp=>vV H e s p) none
def pM(E:Env)(H:Heap)(sT xT:TypeId)(s x:G):R:=
 ifB (L (kV (NQ H s)) (kV (NQ H x))) (Z (nT E H sT xT s x) (uX E H sT xT s x) some)
  (bnd (E.desc sT) λd=>bnd (kD d) λe=>bnd (E.desc xT) λxd=>ifB (isInt xd) none (Z (zeF E H e s x) (zif E H e s x) some))
def FZ(a b:Nat):Nat:=ifB (Nat.ble a b) a b
def zcx(E:Env)(H:Heap)(dT:TypeId)(d x:G):R:=
 bnd (E.desc dT) λt=>bnd (kD t) λe=>bnd (E.size e) λsz=>bnd (Zk H sz x) λp=>
  ifB (Nat.beq (je p.2 0) (Nat.mul p.1 sz)) (Z (yp d) (ifB (kH d) (some (mkNat 0,H)) none) λq=>
   bnd (H.Jz q.b q.off (ek (Nat.mul (FZ p.1 q.len) sz) p.2)) λH'=>some (mkNat (FZ p.1 q.len),H')) none
def zdR(H:Heap)(x:G):Option G:=bnd (uI x) λr=>bnd (H.blk.get r) λb=>bnd (pA b) λm=>some (mkNat (je m.1 0))
def UE(v:G):Bool:=match v with|.nilmap=>true|_=>false
def zgl(E:Env)(H:Heap)(d:TypeDesc)(x:G):Option G:=
 Z (QC d)
  (Z (Gz d) (bnd (xw d) λa=>bnd (E.desc a) λd=>bnd (QC d) λq=>some (mkNat q.1))
   λ_=>ifB (UE x) (some (mkNat 0)) (zdR H x))
  λq=>some (mkNat q.1)
def zih(E:Env)(H:Heap)(t:TypeId)(x:G):Option G:=
 bnd (E.desc t) λd=>Z (kD d) (ifB (ye d) (Z (js x) (findF (iN x) E.facts) λs=>some (mkNat (je s 0))) (zgl E H d x))
  λ_=>Z (yp x) (ifB (kH x) (some (mkNat 0)) (ifB (zci x) (some (mkNat 0)) (Z (Q2 x) (Z (mY x) (findF (Nl x) E.facts) λp=>some (.sym p.q)) λp=>Z (js p.2) (findF (iN p.2) E.facts) λs=>some (mkNat (je s 0))))) λs=>some (mkNat s.len)
def zij(E:Env)(t:TypeId)(x:G):Option G:=
 bnd (E.desc t) λd=>bnd (kD d) λ_=>Z (yp x) (ifB (kH x) (some (mkNat 0)) none) λs=>some (ifB s.ex (mkNat s.cap) (.capv s.b s.cap))
def zeG(l:List G):G->Option G:=
 List.rec (motive:=λ_=>G->Option G) some
  (λb _ ih a=>bnd (asInt a) λp=>bnd (asInt b) λq=>ih (.int p.1 (ifB (ilt q.2 p.2) q.2 p.2))) l
def zeH(l:List G):G->Option G:=
 List.rec (motive:=λ_=>G->Option G) some
  (λb _ ih a=>bnd (asInt a) λp=>bnd (asInt b) λq=>ih (.int p.1 (ifB (ilt p.2 q.2) q.2 p.2))) l
def Ry(E:Env)(H:Heap)(t:TypeId)(x:G):R:=
 bnd (E.desc t) λd=>bnd (kD d) λe=>Z (yp x) (ifB (kH x) (some (jo,H)) none) λq=>
  jY q.len (some (jo,H)) λ_=>bnd (E.zero e) λz=>bnd (H.Jz q.b q.off (Jg (zU z) q.len)) λH'=>some (jo,H')
def KE(H:Heap)(x:G):R:=
 Z (yp x) (ifB (kH x) (some (.nilp,H)) none) λs=>jY s.cap none λ_=>some (.ptr s.b s.off,H)
def pN(E:Env)(H:Heap)(pt:TypeId)(p:G)(n:Nat):R:=
 jY n (ifB (wQ p) (some (.str [],H)) (bnd (Yk p) λ_=>some (.str [],H))) λ_=>
  bnd (Yk p) λq=>bnd (E.desc pt) λd=>bnd (xw d) λu=>bnd (E.size u) λs=>bnd (H.row q.1) λr=>
   ifB (L (Nat.ble 100 q.1) (L (Nat.beq s 1) (L (Nat.beq r.t u) (Nat.ble (Nat.add q.2 n) r.n))))
    (bnd (M.Xu n r.c q.2) λcs=>bnd (US cs) λl=>some (.str l,⟨H.blk.del q.1,H.next⟩)) none
def l1{α:Type u}{β:Type}(l:List β)(r:Option α):Option α:=lC l r λ_ _=>none
def U8(E:Env)(H:Heap)(b:Builtin)(ts:List TypeId)(args:List G):R:=
 lC args none λx r=>lC ts none λt us=>
  match b with
  | .append=>lC r none λy q=>lC us none λu vs=>l1 q (l1 vs (pM E H t u x y))
  | .copy=>lC r none λy q=>l1 q (zcx E H t x y)
  | .len=>Ql H (zih E H t x)
  | .cap=>Ql H (zij E t x)
  | .min=>Ql H (Z (zeG r x) (lC r none λy q=>l1 q (findF (zdM x y) E.facts)) some)
  | .max=>Ql H (Z (zeH r x) (lC r none λy q=>l1 q (findF (zdN x y) E.facts)) some)
  | .clear=>l1 r (Ry E H t x)
  | .unsafeSliceData=>l1 r (KE H x)
  | .unsafeString=>lC r none λy q=>lC us none λ_ vs=>l1 q (l1 vs (bnd (asInt y) λp=>ifB (Wt p.1) (Wk p.2 λn=>ifB (Nat.ble n 1000000000) (pN E H t x n) none) none))
  | _=>none
def zjY(k:IntKind)(x:G)(H:Heap):R:=bnd (WL x) λn=>some (mkInt k (Q1 k n),H)
def rZ(E:Env)(e:TypeId):Bool:=Z (E.size e) false λs=>Nat.beq s 1
def xN(E:Env)(H:Heap)(e:TypeId)(s:List Nat):R:=
 bnd (E.desc e) λd=>bnd (Wx d) λk=>ifB (L (oB k) (rZ E e)) (frc (je s 0) λn=>wE H e (mapA u8 s) λm=>.slice m 0 n n false) none
def Dn(E:Env)(H:Heap)(e:TypeId)(x:G):R:=
 bnd (E.desc e) λd=>bnd (Wx d) λk=>ifB (oB k)
  (Z (yp x) (ifB (kH x) (some (.str [],H)) (bnd (Q2 x) λ_=>bnd (Xf E H x) λv=>some (v,H))) λs=>Z (pkL H s) (bnd (H.yl s.b s.off s.len) λcs=>bnd (US cs) λl=>some (.str l,H)) λl=>some (.str l,H)) none
def mS(E:Env)(H:Heap)(t:TypeId)(x:G):R:=
 bnd (Yk x) λp=>bnd (E.size t) λs=>bnd (H.row p.1) λr=>jY s none λ_=>ifB (Nat.blt p.2 r.n) (some (x,H)) none
def cN(E:Env)(H:Heap)(u:TypeId)(x:G):R:=
 bnd (Yk x) λp=>bnd (E.size u) λs=>bnd (H.row p.1) λr=>jY s none λ_=>
  ifB (L (Nat.beq r.t u) (L (Nat.beq (Nat.mod p.2 s) 0) (Nat.ble (Nat.add p.2 s) r.n))) (some (x,H)) none
def zjX(E:Env)(H:Heap)(dd:TypeDesc)(x:G):R:=
 bnd (js x) λs=>ifB (ye dd) (some (x,H)) (bnd (kD dd) λe=>xN E H e s)
def xM(E:Env)(H:Heap)(sd dd:TypeDesc)(x:G):R:=
 Z (kD sd)
  (Z (xw sd) (ifB (oW sd) (bnd (xw dd) λu=>cN E H u x) none)
   λt=>ifB (oW dd) (mS E H t x) none)
  λe=>ifB (ye dd) (Dn E H e x) none
def uV(E:Env)(H:Heap)(src dst:TypeId)(x:G):R:=
 bnd (E.desc dst) λdd=>bnd (E.desc src) λsd=>
  Z (asInt x) (ifB (ye sd) (zjX E H dd x) (xM E H sd dd x)) λ_=>bnd (Wx dd) λk=>zjY k x H
def BI(E:Env)(H:Heap)(src dst:TypeId)(x:G):R:=
 bnd (E.desc dst) λdd=>bnd (E.desc src) λsd=>Z (Wx dd) (ifB (ye sd) (bnd (findF (iN x) E.facts) λ_=>ifB (ye dd) (some (x,H)) (bnd (kD dd) λe=>bnd (E.desc e) λd=>bnd (Wx d) λk=>ifB (L (oB k) (rZ E e)) (zdt H e x) none)) none)
  λk=>ifB (isInt sd) (bnd (findF (Nu k x) E.facts) λr=>some (r,H)) none
abbrev ag:=List (G×G×Nat)
def kN(v:G):Bool:=match v with|.bool _=>true|.int _ _=>true|.str _=>true|_=>false
def cy(v:G):Bool:=match v with|.agg l=>Jb kN l|v=>kN v
def CP(E:Env)(H:Heap)(t:TypeId)(k x:G):Option Bool:=
 Z (js k) (YC E H 10000 t k x) λa=>bnd (js x) λb=>some (iP a b)
def CD(E:Env)(H:Heap)(t:TypeId)(k:G)(es:ag):Option (Option G):=
 List.rec (some none) (λe _ ih=>bnd (CP E H t k e.1) λr=>ifB (qF k e.1) (ifB r (some (some e.2.1)) none) (ifB r none ih)) es
def Tn(k:G)(v:G)(es:ag):ag:=List.rec [] (λe l ih=>ifB (qF k e.1) ((e.1,v,e.2.2)::l) (e::ih)) es
def Heap.zek(H:Heap)(x:G):Option ag:=ifB (UE x) (some []) (bnd (uI x) λr=>bnd (H.blk.get r) λb=>bnd (pA b) λm=>some m.1)
def Wg(ok:Bool)(v:G)(is:Bool):G:=ifB ok (.tuple [v,.bool is]) v
def Xj(E:Env)(t:TypeId):Bool:=Z (E.desc t) false λd=>ifB (ye d) true (Z (Wx d) false λ_=>true)
def YT(E:Env)(l:List G)(fs:List Field):Bool:=
 List.rec true (λf _ ih=>L (L (Xj E f.type) (Z (E.apart f.type l f.offset) false kN)) ih) fs
def Uy(E:Env)(e:TypeId)(s:Nat)(l:List G)(is:List Nat):Bool:=
 List.rec true (λi _ ih=>L (Z (E.apart e l (Nat.mul i s)) false kN) ih) is
def wO(E:Env)(l:List G)(q:Nat×TypeId):Bool:=L (Xj E q.2) (Z (E.size q.2) false λs=>Uy E q.2 s l (List.range q.1))
def Vj(E:Env)(d:TypeDesc)(k:G):Bool:=
 match k with
 | .str _=>ye d
 | .int _ _=>Z (Wx d) false λ_=>true
 | .agg l=>L (Jb kN l) (Z (Z3 d) (Z (QC d) false λq=>wO E l q) λfs=>YT E l fs)
 | _=>false
def DD(E:Env)(H:Heap)(t:TypeId)(x k:G)(ok:Bool):Option G:=
 bnd (E.desc t) λd=>bnd (Gz d) λq=>bnd (E.desc q.1) λkd=>ifB (Vj E kd k)
  (bnd (H.zek x) λes=>bnd (CD E H q.1 k es) λf=>Z f (bnd (E.zero q.2) λz=>some (Wg ok z false)) λv=>some (Wg ok v true)) none
def Nb(H:Heap)(r:Nat)(k:G)(v:G)(es:ag)(c:Nat)(f:Option G):Heap:=
 Z f ⟨H.blk.set r (.map (zX es [(k,v,c)]) (Nat.succ c)),H.next⟩ λ_=>⟨H.blk.set r (.map (Tn k v es) c),H.next⟩
def hY(E:Env)(H:Heap)(t:TypeId)(m k v:G):Option Heap:=
 bnd (E.desc t) λd=>bnd (Gz d) λq=>bnd (E.desc q.1) λkd=>ifB (Vj E kd k)
  (bnd (uI m) λr=>bnd (H.blk.get r) λb=>bnd (pA b) λp=>ifB (Nat.ble 100 r) (bnd (CD E H q.1 k p.1) λf=>some (Nb H r k v p.1 p.2 f)) none) none
def Zg{α:Type}(N d id:Nat)(f:Nat->α):α:=ifB (Nat.blt id N) (f id) (frc (Nat.add d (Nat.sub id N)) f)
def shV(N d:Nat)(v:G):G:=
 @G.rec (λ_=>G) (λ_=>List G)
  (λb=>.bool b) (λk n=>.int k n) (λs=>.str s) .nilp (λb o=>Zg N d b λm=>.ptr m o) .nilslice (λb o l c x=>Zg N d b λm=>.slice m o l c x) .nilmap (λr=>Zg N d r λm=>.map m)
  (λf _ _ l m=>.fn f l m) (λl=>Zg N d l λm=>.yieldf m) (λb c=>Zg N d b λm=>.capv m c) .nilfn (λt _ v=>.iface t v) .niliface (λ_ l=>.agg l) (λ_ l=>.tuple l) (λi=>Zg N d i λm=>.sym m) (λb o q=>Zg N d b λm=>.esl m o q) (λb _ v=>Zg N d b λm=>.osl m v) (λb o q c x=>Zg N d b λm=>Zg N d q λp=>.psl m o p c x)
  [] (λ_ _ a l=>a::l) v
def YQ{α β:Type}(f:α->β)(t:M α):M β:=M.rec .nil (λ_ v _ l r=>.node l (bnd v λa=>some (f a)) r) t
def shB(N d:Nat)(b:X):X:=
 X.rec (λt n c=>.cells t n (YQ (shV N d) c)) (λes c=>.map (mapA (λe=>(e.1,shV N d e.2.1,e.2.2)) es) c) (λa b c e f g h i=>.loop a b c e f g h i) (λs p=>.siter s p) (λt v=>.text t (shV N d v)) (λt n N=>.pack t n N) (λt v=>.ints t (shV N d v)) (λc=>.view (YQ (shV N d) c)) b
def Ji(N d:Nat)(rows:List (Nat×X)):M X->M X:=
 List.rec (motive:=λ_=>M X->M X) (λt=>t) (λp _ ih t=>Zg N d p.1 λm=>ih (t.set m (shB N d p.2))) rows
def td(g:FuncId)(as:List G)(f:Fact):Option (Nat×Nat×List (Nat×X)×G):=
 match f with|.make h bs N n rows r=>ifB (L (Nat.beq g h) (yh as bs)) (some (N,n,rows,r)) none|.makeF p=>p g as|_=>none
def Ie(H:Heap)(N n:Nat)(rows:List (Nat×X))(r:G):R:=
 ifB (Nat.ble N H.next) (frc H.next λd=>frc (Nat.add d n) λm=>some (shV N d r,⟨Ji N d rows H.blk,m⟩)) none
def dX(args:List G)(H:Heap):R:=
 lC args none λa q=>l1 q (bnd (pC a) λp=>bnd (uI p.2) λr=>bnd (H.blk.get r) λb=>bnd (pA b) λm=>
  frc H.next λn=>some (.iface p.1 (.map n),⟨H.blk.set n (.map m.1 m.2),Nat.succ n⟩))
def gE(c:Nat)(s:List Nat):Nat:=List.rec 0 (λb _ ih=>ifB (Nat.beq b c) (Nat.succ ih) ih) s
def Ig(args:List G)(H:Heap):R:=
 lC args none λa r=>lC r none λb q=>l1 q (bnd (js a) λs=>bnd (Vr b) λc=>some (mkInt .i64 (.ofNat (gE c s)),H))
def UL(c:Nat)(s:List Nat):Nat->Int:=
 List.rec (motive:=λ_=>Nat->Int) (λ_=>.negSucc 0) (λb _ ih i=>ifB (Nat.beq b c) (.ofNat i) (ih (Nat.succ i))) s
def dZ(args:List G)(H:Heap):R:=
 lC args none λa r=>lC r none λb q=>l1 q (bnd (js a) λs=>bnd (Vr b) λc=>some (mkInt .i64 (UL c s 0),H))
def GQ(l:List Nat):List Nat->Int:=
 List.rec (motive:=λ_=>List Nat->Int) (λm=>lC m (.ofNat 0) λ_ _=>.negSucc 0)
  (λa _ ih m=>lC m (.ofNat 1) λb m=>ifB (Nat.blt a b) (.negSucc 0) (ifB (Nat.beq a b) (ih m) (.ofNat 1))) l
def ri(args:List G)(H:Heap):R:=
 lC args none λa r=>lC r none λb q=>l1 q (bnd (js a) λs=>bnd (js b) λt=>some (mkInt .i64 (GQ s t),H))
def bP(e:TypeId)(args:List G)(H:Heap):R:=
 lC args none λa q=>l1 q (bnd (asInt a) λp=>ifB (Wt p.1) (Wk p.2 λn=>ifB (Nat.ble n 1000000000)
  (frc H.next λm=>frc n λn=>some (.slice m 0 n n false,⟨H.blk.set m (.cells e n .nil),Nat.succ m⟩)) none) none)
def zeZ(args:List G)(H:Heap):R:=lC args none λa q=>l1 q (some (a,H))
end
end
section
universe u
noncomputable section
inductive jr where
 | fail
 | nrm (T:M G) (H:Heap)
 | ex (id:Nat) (T:M G) (H:Heap)
 | ret (T:M G) (H:Heap)
structure Fr where
 n:Nat
 fn:FuncId
 ro:Option Nat
abbrev Rec:=Fr->Code->M G->Heap->jr
abbrev OpF:=Env->Rec->M G->Heap->R
def Yf:OpF:=λ_ _ _ _=>none
def zcj(x:Operand):OpF:=λ_ _ T H=>Ql H (ev T x)
def zgE(c a b:Operand):OpF:=λ_ _ T H=>bnd (ev T c) λv=>bnd (asBool v) λq=>ifB q (Ql H (ev T a)) (Ql H (ev T b))
def zd9(t:TypeId):OpF:=λE _ _ H=>bnd (E.zero t) λz=>wE H t (zU z) λm=>.ptr m 0
def zjo(t:TypeId)(x:Operand):OpF:=λ_ _ T H=>bnd (ev T x) λv=>ifB (Jb Zh (zU v)) (wE H t (zU v) λm=>.ptr m 0) none
def Xw(E:Env)(fs:List Field)(i:Nat):Option (Nat×Nat):=bnd (yG i fs) λf=>bnd (E.size f.type) λs=>some (f.offset,s)
def Kl(s:Nat)(i:Nat):Option (Nat×Nat):=some (Nat.mul i s,s)
def mH(place:Nat->Option (Nat×Nat))(total:Nat)(ps:List (Nat×G)):List G->Option (List G):=
 List.rec (motive:=λ_=>List G->Option (List G)) some
  (λp _ ih cs=>bnd (place p.1) λq=>ifB (L (Nat.beq (je (zU p.2) 0) q.2) (Nat.ble (Nat.add q.1 q.2) total)) (ih (Yb q.1 (zU p.2) cs)) none) ps
def U6(E:Env)(fs:List Field):Bool:=List.rec true (λf _ ih=>Z (E.size f.type) false λ_=>ih) fs
def xP(E:Env)(d:TypeDesc)(z:List G)(ps:List (Nat×G)):Option (List G):=
 Z (Z3 d) (bnd (QC d) λq=>bnd (E.size q.2) λs=>mH (Kl s) (je z 0) ps z) λfs=>ifB (U6 E fs) (mH (Xw E fs) (je z 0) ps z) none
def zd7(t:TypeId)(parts:Array (Nat×Operand)):OpF:=λE _ T H=>
 bnd (E.zero t) λz=>bnd (oO T parts.toList) λps=>bnd (E.desc t) λd=>bnd (xP E d (zU z) ps) λl=>some (.agg l,H)
def tS(t:TypeId)(len:Nat)(parts:Array (Nat×Operand)):OpF:=λE _ T H=>
 bnd (E.desc t) λd=>bnd (kD d) λe=>bnd (oO T parts.toList) λps=>bnd (E.size e) λs=>bnd (E.zero e) λz=>
  ifB (L (Nat.ble (Nat.mul len s) 16777216) (Nat.beq (je (zU z) 0) s))
   (bnd (mH (Kl s) (Nat.mul len s) ps (Jg (zU z) len)) λl=>ifB (Jb Zh l) (wE H e l λm=>.slice m 0 len len true) none) none
def zgG(t:TypeId)(a:Operand):OpF:=λE _ T H=>bnd (ev T a) λv=>bnd (Yk v) λp=>Ql H (E.loadVar H t p.1 p.2)
def zd2(t:TypeId)(a x:Operand):OpF:=λE _ T H=>
 bnd (ev T a) λv=>bnd (Yk v) λp=>bnd (ev T x) λy=>bnd (E.storeVar H t p.1 p.2 y) λH'=>some (jo,H')
def Gi(x:Operand):OpF:=λ_ _ T H=>bnd (ev T x) λv=>ifB (isNil v) none (some (v,H))
def zd8(op:BinOp)(t:TypeId)(x y:Operand)(_:TypeId):OpF:=λE _ T H=>
 bnd (ev T x) λa=>bnd (ev T y) λb=>Ql H (zeL E H op t x y a b)
def unNeg(k:IntKind)(n:Int):G:=mkInt k (Q1 k (zdY n))
def unXor(k:IntKind)(n:Int):G:=mkInt k (back k (Nat.xor (QR k n) (Nat.sub (full k) 1)))
def xW(op:UnOp)(x:G):Option G:=
 match op with
 | .neg=>bnd (asInt x) λp=>some (unNeg p.1 p.2)
 | .xor=>bnd (asInt x) λp=>some (unXor p.1 p.2)
 | .not=>bnd (asBool x) λb=>some (ifB b (.bool false) (.bool true))
 | .plus=>none
def zgD(op:UnOp)(_:TypeId)(x:Operand):OpF:=λE _ T H=>bnd (ev T x) λv=>Ql H (ifB (Yd v) (findF (mUn op v) E.facts) (xW op v))
def Pg(s d:TypeId)(x:Operand):OpF:=λE _ T H=>bnd (ev T x) λv=>ifB (Yd v) (BI E H s d v) (uV E H s d v)
def fW(t:TypeId)(x:Operand):OpF:=λE _ T H=>bnd (E.desc t) λd=>ifB (PW d) none (bnd (ev T x) λv=>some (.iface t v,H))
def zec(f:Fn):Option FuncId:=match f with|.func f=>some f|_=>none
def Gj(f:Fn)(first captured:Array Operand):OpF:=λ_ _ T H=>
 bnd (zec f) λf=>bnd (evs T first.toList) λl=>bnd (evs T captured.toList) λm=>some (.fn f l m,H)
def Pe(t:TypeId)(r:Option Operand):OpF:=λE _ T H=>
 bnd (Z r (some true) λo=>bnd (ev T o) λv=>bnd (asInt v) λ_=>bnd (E.desc t) λd=>bnd (Gz d) λ_=>some true) λ_=>
  frc H.next λn=>some (.map n,⟨H.blk.set n (.map [] 0),Nat.succ n⟩)
def mkSlice(E:Env)(H:Heap)(e:TypeId)(l c:Nat):R:=
 bnd (E.types.get e) λi=>bnd (E.zero e) λz=>
  ifB (L (Nat.ble (Nat.mul c i.bytes) 1000000000) (L (Nat.ble l c) (L (Nat.beq (je (zU z) 0) i.size) (Nat.ble c 1000000000))))
   (frc l λl=>frc c λc=>wE H e (Jg (zU z) c) λm=>.slice m 0 l c true) none
def zgz{α:Type u}(v:G)(f:Nat->Option α):Option α:=bnd (asInt v) λp=>ifB (Wt p.1) (Wk p.2 f) none
def wY(t:TypeId)(l c:Operand):OpF:=λE _ T H=>
 bnd (E.desc t) λd=>bnd (kD d) λe=>bnd (ev T l) λa=>bnd (ev T c) λb=>zgz a λl=>zgz b λc=>mkSlice E H e l c
def zd3(t:TypeId)(x:Operand)(lo hi mx:Option Operand):OpF:=λE _ T H=>
 bnd (ev T x) λv=>bnd (evO T lo) λl=>bnd (evO T hi) λh=>bnd (evO T mx) λm=>Ql H (Rf E t v l h m)
def C6(E:Env)(b off:Nat)(f:Field):Option G:=bnd (E.size f.type) λs=>jY s none λ_=>frc (Nat.add off f.offset) λo=>some (.ptr b o)
def xf(s:TypeId)(x:Operand)(f:Nat):OpF:=λE _ T H=>
 bnd (E.desc s) λd=>bnd (Z3 d) λfs=>bnd (yG f fs) λfl=>bnd (ev T x) λv=>bnd (Yk v) λp=>Ql H (C6 E p.1 p.2 fl)
def zd6(t:TypeId)(x:Operand)(f:Nat):OpF:=λE _ T H=>
 bnd (E.desc t) λd=>bnd (Z3 d) λfs=>bnd (yG f fs) λfl=>bnd (ev T x) λv=>bnd (asAgg v) λcs=>Ql H (E.apart fl.type cs fl.offset)
def gq(b off i s:Nat):Option G:=frc (Nat.add off (Nat.mul i s)) λo=>some (.ptr b o)
def NZ(E:Env)(q:Nat×TypeId)(v:G)(i:Int):Option G:=
 bnd (Yk v) λp=>bnd (E.size q.2) λs=>inB i q.1 λi=>gq p.1 p.2 i s
def TO(E:Env)(e:TypeId)(v:G)(i:Int):Option G:=
 bnd (E.size e) λs=>Z (yp v) (bnd (mY v) λp=>Wk i λn=>bnd (findF (Np p.q) E.facts) λm=>ifB (Nat.blt n m.1) (gq p.b p.o n s) none) λq=>inB i q.len λi=>gq q.b q.off i s
def ib(E:Env)(t:TypeId)(v ix:G):Option G:=
 bnd (WL ix) λi=>bnd (E.desc t) λd=>Z (kD d) (bnd (QC d) λq=>NZ E q v i) λe=>TO E e v i
def wZ(t:TypeId)(x ix:Operand):OpF:=λE _ T H=>bnd (ev T x) λv=>bnd (ev T ix) λi=>Ql H (ib E t v i)
def zfj(s:List Nat)(i:Int):Option G:=Wk i λn=>bnd (yG n s) λb=>some (u8 b)
def N0(E:Env)(q:Nat×TypeId)(v:G)(i:Int):Option G:=
 bnd (asAgg v) λcs=>bnd (E.size q.2) λs=>inB i q.1 λi=>E.apart q.2 cs (Nat.mul i s)
def Rw(E:Env)(t:TypeId)(v ix:G):Option G:=
 bnd (WL ix) λi=>Z (js v) (bnd (E.desc t) λd=>bnd (QC d) λq=>N0 E q v i) λs=>bnd (E.desc t) λd=>ifB (ye d) (zfj s i) none
def rH(E:Env)(t:TypeId)(v ix:G):Option G:=bnd (WL ix) λi=>bnd (E.desc t) λd=>ifB (ye d) (Wk i λn=>findF (mAt v n) E.facts) none
def zd5(t:TypeId)(x ix:Operand):OpF:=λE _ T H=>bnd (ev T x) λv=>bnd (ev T ix) λi=>Ql H (ifB (Yd v) (rH E t v i) (Rw E t v i))
def TZ(t:TypeId)(x k:Operand)(ok:Bool):OpF:=λE _ T H=>bnd (ev T x) λv=>bnd (ev T k) λk=>Ql H (DD E H t v k ok)
def fV(t:TypeId)(m k v:Operand):OpF:=λE _ T H=>
 bnd (ev T m) λm=>bnd (ev T k) λk=>bnd (ev T v) λv=>bnd (hY E H t m k v) λH'=>some (jo,H')
def zd4(t:TypeId)(x:Operand):OpF:=λE _ T H=>
 bnd (E.desc t) λd=>ifB (ye d) (bnd (ev T x) λv=>bnd (js v) λs=>frc H.next λn=>some (.ptr n 0,⟨H.blk.set n (.siter s 0),Nat.succ n⟩)) none
def fJ(H:Heap)(b:Nat)(s:List Nat)(p:Nat):R:=
 Z (yG p s) (some (.tuple [.bool false],H)) λc=>ifB (Nat.blt c 128)
  (frc (Nat.succ p) λn=>some (.tuple [.bool true,.int .i64 (.ofNat p),.int .i32 (.ofNat c)],⟨H.blk.set b (.siter s n),H.next⟩)) none
def zgF(it:Operand)(str:Bool):OpF:=λ_ _ T H=>
 ifB str (bnd (ev T it) λv=>bnd (Yk v) λp=>jY p.2 (bnd (H.blk.get p.1) λb=>bnd (zeD b) λq=>ifB (Nat.ble 100 p.1) (fJ H p.1 q.1 q.2) none) λ_=>none) none
def tR(x:Operand)(_ ty:TypeId)(ok:Bool):OpF:=λE _ T H=>
 bnd (E.desc ty) λd=>ifB (PW d) none (bnd (ev T x) λv=>bnd (pC v) λp=>ifB (Nat.beq p.1 ty) (some (Wg ok p.2 true,H)) none)
def Pf(t:Operand)(ix:Nat):OpF:=λ_ _ T H=>bnd (ev T t) λv=>bnd (asTuple v) λl=>Ql H (yG ix l)
def zde(t:Nat):Env->M G->Heap->Option G:=λ_ T _=>C8 t T
def SL(a:Nat)(t:TypeId):Env->M G->Heap->Option G:=λE T H=>bnd (T.get a) λv=>bnd (Yk v) λp=>E.loadVar H t p.1 p.2
def Dx(r:ResultVar):Env->M G->Heap->Option G:=@ResultVar.rec (λ_=>Env->M G->Heap->Option G) zde SL r
def uL(E:Env)(T:M G)(H:Heap)(l:List ResultVar):Option (List G):=
 List.rec (some []) (λr _ ih=>bnd (Dx r E T H) λa=>bnd ih λm=>some (a::m)) l
def one(l:List G):G:=lC l (.tuple []) λa m=>lC m a λ_ _=>.tuple l
def leave(E:Env)(fn:Func)(T:M G)(H:Heap):R:=bnd (uL E T H fn.results.toList) λl=>some (one l,H)
def tc(a b:Nat):Nat:=ifB (Nat.ble a b) b a
def leaves(E:Env)(fn:Func)(r:jr):R:=@jr.rec (λ_=>R) none (λT H=>leave E fn T H) (λ_ _ _=>none) (λT H=>leave E fn T H) r
def qL(E:Env)(rec:Rec)(f:FuncId)(args:List G)(H:Heap):R:=
 bnd (E.funcs.get f) λfn=>bnd fn.body λc=>leaves E fn (rec ⟨tc fn.ntmps (je args 0),f,none⟩ c (M.ofList args) H)
def eZ(sz:Nat)(t:TypeId)(r:R):Option (Nat×List G):=
 bnd r λr=>bnd (yp r.1) λs=>bnd (r.2.row s.b) λw=>
  ifB (L (Nat.ble 100 s.b) (L (Nat.beq s.off 0) (L (Nat.beq w.t t) (L (ifB s.ex (Nat.ble (Nat.mul s.cap sz) w.n) (Nat.beq (Nat.mul s.cap sz) w.n)) (Nat.ble s.len s.cap)))))
   (bnd (M.Xu (Nat.mul s.len sz) w.c 0) λl=>some (s.len,l)) none
def nZ(m:Nat)(v:G):Bool:=
 match v with
 | .bool _=>true
 | .int _ _=>true
 | .str _=>true
 | .nilp=>true
 | .nilslice=>true
 | .nilmap=>true
 | .nilfn=>true
 | .niliface=>true
 | .ptr b _=>Nat.blt b m
 | .slice b _ _ _ ex=>L ex (Nat.blt b m)
 | .map b=>Nat.blt b m
 | .sym b=>Nat.blt b m
 | _=>false
abbrev zcH:=List G->Heap->R
def NX(H:Heap)(s:Sl)(bv:Nat)(t:TypeId)(sz:Nat)(x y:Option (Nat×List G)):R:=
 bnd x λp=>bnd y λq=>ifB (L (Nat.beq p.1 q.1) (L (yh p.2 q.2) (Jb (nZ H.next) p.2)))
  (some (.slice H.next 0 p.1 p.1 false,⟨((H.blk.del s.b).del bv).set H.next (.cells t (Nat.mul p.1 sz) (M.ofList p.2)),Nat.succ H.next⟩)) none
def zdW(E:Env)(run:zcH)(s:Sl)(i:G)(v:Sl)(H:Heap):R:=
 bnd (H.zbg s.b) λr=>bnd (H.zbg v.b) λw=>bnd (E.size r.t) λsz=>
  ifB (L (L (Nat.ble 100 s.b) (Nat.ble 100 v.b)) (L (kV (Nat.beq s.b v.b)) (L (Nat.beq v.len 1) (Nat.beq (Nat.add s.off (Nat.mul s.cap sz)) r.n))))
   (NX H s v.b r.t sz
    (eZ sz r.t (run [.slice s.b s.off s.len s.cap true,i,.slice v.b v.off v.len v.cap v.ex]
     ⟨M.set (M.set (jj E.tabs) s.b (.cells r.t r.n r.c)) v.b (.cells w.t w.n w.c),H.next⟩))
    (eZ sz r.t (run [.slice H.next s.off s.len (Nat.succ s.cap) false,i,.slice v.b v.off v.len v.cap v.ex]
     ⟨M.set (M.set (jj E.tabs) H.next (.cells r.t (Nat.add r.n sz) r.c)) v.b (.cells w.t w.n w.c),Nat.succ H.next⟩))) none
def pH(E:Env)(run:zcH)(args:List G)(H:Heap):R:=
 lC args none λa l=>lC l none λi m=>lC m none λv q=>l1 q
  (Z (yp a) (run args H) λs=>ifB s.ex (run args H) (bnd (yp v) λw=>frc H.next λn=>zdW E run s i w ⟨H.blk,n⟩))
def oeq(a b:Option G):Bool:=Z a (Z b true λ_=>false) λx=>Z b false λy=>qF x y
def Fc(t:M G):M G->Bool:=
 M.rec (motive:=λ_=>M G->Bool) (λs=>M.rec (motive:=λ_=>Bool) true (λ_ _ _ _ _=>false) s)
  (λ_ v _ ihl ihr s=>M.rec (motive:=λ_=>Bool) false (λl v' r _ _=>L (oeq v v') (L (ihl l) (ihr r))) s) t
def xp(es:ag):ag->Bool:=
 List.rec (motive:=λ_=>ag->Bool) (λm=>lC m true λ_ _=>false)
  (λe _ ih m=>lC m false λd m=>L (L (qF e.1 d.1) (L (qF e.2.1 d.2.1) (Nat.beq e.2.2 d.2.2))) (ih m)) es
def Q0(a b:X):Bool:=
 match a,b with
 | .cells t n c,.cells t' n' c'=>L (Nat.beq t t') (L (Nat.beq n n') (Fc c c'))
 | .pack t n N,.pack t' n' N'=>L (Nat.beq t t') (L (Nat.beq n n') (Nat.beq N N'))
 | .map es k,.map es' k'=>L (xp es es') (Nat.beq k k')
 | .text t v,.text t' v'=>L (Nat.beq t t') (qF v v')
 | .ints t v,.ints t' v'=>L (Nat.beq t t') (qF v v')
 | .view c,.view c'=>Fc c c'
 | _,_=>false
def qf(l:List (Nat×X))(t:M X):M X:=List.rec t (λp _ ih=>ih.set p.1 p.2) l
def Yy(l:List (Nat×X))(t:M X):M X:=List.rec t (λp _ ih=>ih.del p.1) l
def dF(t:M X)(l:List (Nat×X)):Bool:=List.rec true (λp _ ih=>L (Z (t.get p.1) false λb=>Q0 b p.2) ih) l
def ZV(H:Heap)(rin rout:List (Nat×X))(n:Nat):Heap:=⟨qf rout (Yy rin H.blk),n⟩
def zdZ(v:G):Option Nat:=match v with|.ptr b _=>some b|.slice b _ _ _ _=>some b|.map r=>some r|.osl b _=>some b|.psl b _ _ _ _=>some b|_=>none
def zid(as:List G)(ai fi:Nat):Option Nat:=bnd (yG ai as) λa=>jY fi (zdZ a) λk=>bnd (asAgg a) λl=>bnd (yG k l) zdZ
def zeu(H:Heap)(b ci:Nat):Option Nat:=jY ci (some b) λk=>bnd (H.row b) λr=>bnd (M.get r.c k) zdZ
def zfD(as:List G)(H:Heap)(g:Seg):Option (Nat×Nat×Nat):=
 bnd (zid as g.ai g.fi) λb=>bnd (zeu H b g.ci) λa=>ifB (Nat.ble g.cid (Nat.add a g.lo)) (frc (Nat.sub (Nat.add a g.lo) g.cid) λn=>some (g.lo,g.hi,n)) none
def IU(as:List G)(H:Heap)(l:List Seg):Option (List (Nat×Nat×Nat)):=List.rec (some []) (λg _ ih=>bnd (zfD as H g) λx=>bnd ih λm=>some (x::m)) l
def ren(nx next:Nat)(l:List (Nat×Nat×Nat))(id:Nat):Nat:=
 ifB (Nat.ble nx id) (Nat.add next (Nat.sub id nx)) (List.rec id (λx _ ih=>ifB (L (Nat.ble x.1 id) (Nat.blt id x.2.1)) (Nat.add x.2.2 (Nat.sub id x.1)) ih) l)
def aA(N nx next:Nat)(l:List (Nat×Nat×Nat)):Bool:=
 List.rec true (λx _ ih=>L (L (Nat.ble N x.1) (L (Nat.ble x.1 x.2.1) (L (Nat.ble x.2.1 nx) (Nat.ble (Nat.add x.2.2 (Nat.sub x.2.1 x.1)) next)))) ih) l
def fw(n:Nat)(l:List Nat):Bool:=List.rec false (λa _ ih=>ifB (Nat.beq n a) true ih) l
def ZS(l:List Nat):Bool:=List.rec true (λa m ih=>ifB (fw a m) false ih) l
def Md(N nx:Nat)(ρ:Nat->Nat)(l:List (Nat×X)):Bool:=List.rec true (λp _ ih=>L (L (Nat.ble N p.1) (L (Nat.blt p.1 nx) (L (Nat.ble 100 (ρ p.1)) (Z (yC p.2) true λ_=>false)))) ih) l
def Yr(ρ:Nat->Nat)(l:List (Nat×X)):List Nat:=List.rec [] (λp _ ih=>frc (ρ p.1) λm=>m::ih) l
def jX(ρ:Nat->Nat)(v:G):G:=
 @G.rec (λ_=>G) (λ_=>List G)
  (λb=>.bool b) (λk n=>.int k n) (λs=>.str s) .nilp (λb o=>frc (ρ b) λm=>.ptr m o) .nilslice (λb o l c x=>frc (ρ b) λm=>.slice m o l c x) .nilmap (λr=>frc (ρ r) λm=>.map m)
  (λf _ _ l m=>.fn f l m) (λl=>frc (ρ l) λm=>.yieldf m) (λb c=>frc (ρ b) λm=>.capv m c) .nilfn (λt _ v=>.iface t v) .niliface (λ_ l=>.agg l) (λ_ l=>.tuple l) (λi=>frc (ρ i) λm=>.sym m) (λb o q=>frc (ρ b) λm=>.esl m o q)
  (λb _ v=>frc (ρ b) λm=>.osl m v) (λb o q c x=>frc (ρ b) λm=>frc (ρ q) λp=>.psl m o p c x)
  [] (λ_ _ a l=>a::l) v
def X7(ρ:Nat->Nat)(l:List G):List G:=List.rec [] (λa _ ih=>jX ρ a::ih) l
def sn(ρ:Nat->Nat)(b:X):X:=
 X.rec (λt n c=>.cells t n (YQ (jX ρ) c)) (λes c=>.map (mapA (λe=>(e.1,jX ρ e.2.1,e.2.2)) es) c) (λa b c e f g h i=>.loop a b c e f g h i) (λs p=>.siter s p) (λt v=>.text t (jX ρ v)) (λt n N=>.pack t n N) (λt v=>.ints t (jX ρ v)) (λc=>.view (YQ (jX ρ) c)) b
def wB(v:G):Bool:=
 match v with
 | .ptr ..=>false|.slice ..=>false|.map ..=>false|.yieldf ..=>false|.capv ..=>false|.sym ..=>false|.esl ..=>false|.osl ..=>false|.psl ..=>false|.fn ..=>false|.iface ..=>false|.agg ..=>false|.tuple ..=>false|_=>true
def sU(t:M G):Bool:=M.rec true (λ_ v _ il ir=>ifB (Z v true wB) (ifB il ir false) false) t
def MY(es:ag):Bool:=List.rec true (λe _ ih=>ifB (wB e.2.1) ih false) es
def zgd(b:X):Bool:=
 X.rec (λ_ _ c=>sU c) (λes _=>MY es) (λ_ _ _ _ _ _ _ _=>true) (λ_ _=>true) (λ_ v=>wB v) (λ_ _ _=>true) (λ_ v=>wB v) (λc=>sU c) b
def Mc(ρ:Nat->Nat)(b:X):X:=ifB (zgd b) b (sn ρ b)
def oJ(ρ:Nat->Nat)(t:M X)(l:List (Nat×X)):Bool:=List.rec true (λp _ ih=>L (frc (ρ p.1) λm=>Z (t.get m) false λb=>Q0 b (Mc ρ p.2)) ih) l
def Yx(ρ:Nat->Nat)(l:List (Nat×X))(t:M X):M X:=List.rec t (λp _ ih=>frc (ρ p.1) λm=>ih.del m) l
def Wc(ρ:Nat->Nat)(l:List (Nat×X))(t:M X):M X:=List.rec t (λp _ ih=>frc (ρ p.1) λm=>ih.set m (Mc ρ p.2)) l
def dt(ρ:Nat->Nat)(H:Heap)(rin rout:List (Nat×X))(n:Nat):Heap:=⟨Wc ρ rout (Yx ρ rin H.blk),n⟩
def Pn(as bs:List G)(H:Heap)(N nx:Nat)(rin rout:List (Nat×X))(r:G)(n:Nat)(l:List (Nat×Nat×Nat))(ρ:Nat->Nat):Option (G×Heap):=
 ifB (L (aA N nx H.next l) (L (yh as (X7 ρ bs)) (L (Md N nx ρ rin) (L (ZS (Yr ρ rin)) (oJ ρ H.blk rin)))))
  (frc (Nat.add H.next (Nat.sub n nx)) λm=>some (jX ρ r,dt ρ H rin rout m)) none
def oo(g:FuncId)(as:List G)(H:Heap)(f:Fact):Option (G×Heap):=
 match f with
 | .memoG h N segs bs nx rin rout r n=>ifB (Nat.beq g h) (bnd (IU as H segs) λl=>ifB (L (Nat.ble nx H.next) (L (Nat.ble 100 N) (Nat.ble N nx))) (Pn as bs H N nx rin rout r n l (ren nx H.next l)) none) none
 | _=>none
def CI(g:FuncId)(as:List G)(H:Heap)(f:Fact):Option (G×Heap):=
 match f with
 | .memo h bs nx rin rout r n=>ifB (L (Nat.beq g h) (L (yh as bs) (L (Nat.beq H.next nx) (dF H.blk rin)))) (some (r,ZV H rin rout n)) none
 | _=>none
def dQ(E:Env)(H:Heap)(a p:G):Bool:=
 Z (Q2 p) (qF a p) λq=>ifB (Z (Q2 a) (Z (yp a) false λ_=>true) λ_=>true) (Z (Xf E H a) false λv=>qF v q.2) false
def dP(E:Env)(H:Heap)(l:List G):List G->Bool:=
 List.rec (motive:=λ_=>List G->Bool) (λm=>lC m true λ_ _=>false) (λa _ ih m=>lC m false λb m=>L (dQ E H a b) (ih m)) l
def CF(E:Env)(g:FuncId)(as:List G)(H:Heap)(f:Fact):Option G:=match f with|.read h bs r=>ifB (L (Nat.beq g h) (dP E H as bs)) (some r) none|_=>none
def zeK(E:Env)(rec:Rec)(f:FuncId)(args:List G)(H:Heap)(s:Spec):R:=
 match s with
 | .mapsClone=>dX args H
 | .indexByte=>dZ args H
 | .makeNoZero e=>bP e args H
 | .same=>zeZ args H
 | .insert=>pH E (qL E rec f) args H
 | .compare=>ri args H
 | .count=>Ig args H
 | .fact=>bnd (E.funcs.get f) λfn=>bnd fn.body λ_=>
  Z (findF (tf f args) E.facts) (Z (findF (td f args) E.facts) (Z (findF (CI f args H) E.facts) (Z (findF (oo f args H) E.facts) (Z (findF (CF E f args H) E.facts) (qL E rec f args H) λr=>some (r,H)) λq=>some q) λq=>some q) λq=>Ie H q.1 q.2.1 q.2.2.1 q.2.2.2) λr=>some (r,H)
def DE(E:Env)(rec:Rec)(f:FuncId)(args:List G)(H:Heap):R:=
 Z (E.spec.get f) (qL E rec f args H) λs=>zeK E rec f args H s
def az(ps:List Tmp):List G->M G->M G:=
 List.rec (motive:=λ_=>List G->M G->M G) (λ_ T=>T) (λp _ ih l T=>lC l T λa m=>ih m (T.set p a)) ps
def Heap.lp(H:Heap)(l:Nat):Option Lp:=ifB (Nat.ble 100 l) (bnd (H.blk.get l) yC) none
def Heap.J8(H:Heap)(l:Nat)(q:Lp)(st:LoopState)(pend:Option Code):Heap:=
 ⟨H.blk.set l (.loop st pend q.fn q.n q.T q.ps q.assign q.body),H.next⟩
def isReady(s:LoopState):Bool:=match s with|.ready=>true|_=>false
def zdV(s:LoopState):Bool:=match s with|.busy=>true|_=>false
def I9(l:Nat)(r:jr):R:=
 @jr.rec (λ_=>R) none
  (λ_ H=>bnd (H.lp l) λq=>some (.bool true,H.J8 l q .ready none))
  (λid _ H=>bnd (H.lp l) λq=>some (.bool false,H.J8 l q .done (some (.exit id))))
  (λ_ H=>bnd (H.lp l) λq=>some (.bool false,H.J8 l q .done (some .ret))) r
def ziX(r:jr)(f:M G->Heap->R):R:=@jr.rec (λ_=>R) none f (λ_ _ _=>none) (λ_ _=>none) r
def Nw(n:Nat)(l:List Tmp):Bool:=List.rec true (λp _ ih=>ifB (Nat.blt p n) ih false) l
def xY(rec:Rec)(l:Nat)(args:List G)(H:Heap):R:=
 bnd (H.lp l) λq=>ifB (L (isReady q.st) (L (Nat.beq (je args 0) (je q.ps.toList 0)) (Nw q.n q.ps.toList)))
  (ziX (rec ⟨q.n,q.fn,some l⟩ q.assign (az q.ps.toList args q.T) H) λT H=>bnd (H.lp l) λq'=>
   ifB (isReady q'.st) (I9 l (rec ⟨q.n,q.fn,some l⟩ q.body T (H.J8 l q' .busy q'.pend))) none) none
def zev(E:Env)(rec:Rec)(args:List G)(H:Heap)(f:FuncId)(first captured:List G):R:=DE E rec f (zX first (zX args captured)) H
def Bn(E:Env)(rec:Rec)(g:G)(args:List G)(H:Heap):R:=
 match g with
 | .fn f first captured=>zev E rec args H f first captured
 | .yieldf l=>xY rec l args H
 | _=>none
def zh5(b:Builtin)(args:Array Operand)(ts:Array TypeId):OpF:=λE _ T H=>bnd (evs T args.toList) λvs=>U8 E H b ts.toList vs
def zbv(g:Operand)(args:Array Operand):OpF:=λE rec T H=>bnd (ev T g) λv=>bnd (evs T args.toList) λvs=>Bn E rec v vs H
def zgH(c:Call):OpF:=@Callee.rec (λ_=>Array Operand->Array TypeId->OpF) (λg args _=>zbv g args) (λ_ _ _ _=>Yf) zh5 c.callee c.args c.argTypes
def aop(o:Op):OpF:=@Op.rec (λ_=>OpF)
 zcj zcj zgE zd9 zjo zd7 tS fV zgG zd2 (λ_=>Yf) (λ_=>Yf) Gi zd8 zgD Pg
 (λ_ _=>Yf) fW Gj Pe (λ_ _=>Yf) wY zd3 xf zd6 wZ zd5 TZ fV
 (λ_ _ _=>Yf) (λ_ _ _ _=>Yf) zd4 zgF (λ_=>Yf) tR Pf zgH (λ_=>Yf) (λ_=>Yf) (λ_=>Yf)
 (λ_ _=>Yf) (λ_ _ _=>Yf) (λ_ _=>Yf) o
abbrev pR:=M G->Heap->jr
def zbD(n:Nat)(dst:Option Tmp)(T:M G)(v:G)(f:M G->jr):jr:=
 Z dst (f T) λd=>ifB (Nat.blt d n) (f (T.set d v)) .fail
def m8(E:Env)(rec:Rec)(n:Nat)(o:Oper)(T:M G)(H:Heap)(k:pR):jr:=
 Z (aop o.op E rec T H) .fail λr=>zbD n o.dst T r.1 λT'=>k T' r.2
def UU(T:M G)(d:Tmp)(want:Bool):Bool:=Z (T.get d) false λv=>Z (asBool v) false λb=>Hl b want
def KM(ops:List Oper)(T:M G)(g:Nat×Bool):Bool:=Z (yG g.1 ops) false λo=>Z o.dst false λd=>UU T d g.2
def UI(v:G):Bool:=ifB (cA v) true (Yd v)
def np(ops:List Oper)(T:M G)(g:Nat×Bool):Bool:=Z (yG g.1 ops) false λo=>Z o.dst false λd=>Z (T.get d) false UI
def cY(E:Env)(rec:Rec)(n:Nat)(ops:List Oper)(o:Oper)(k:pR)(T:M G)(H:Heap):jr:=
 Z o.guard (m8 E rec n o T H k) λg=>ifB (np ops T g) .fail (ifB (KM ops T g) (m8 E rec n o T H k) (zbD n o.dst T jo λT'=>k T' H))
def zbI(E:Env)(rec:Rec)(n:Nat)(ops:List Oper)(l:List Oper):pR:=
 List.rec (motive:=λ_=>pR) (λT H=>.nrm T H) (λo _ ih=>cY E rec n ops o ih) l
structure OpM where
 i:Nat
 pre:Nat
 anc:Nat
 kind:Nat
 o:Oper
def bB(e:Edge):Bool:=Region.binds .any e
def Zu(es:List Edge):Nat:=List.rec 0 (λe _ ih=>ifB (bB e) (lor (Nat.shiftLeft 1 e.on) ih) ih) es
def QP(acc:List Nat)(es:List Edge):Nat:=
 List.rec 0 (λe _ ih=>ifB (bB e) (lor (lor (Nat.shiftLeft 1 e.on) (Z (yG e.on acc) 0 λa=>a)) ih) ih) es
def Y6(l:List Oper):List Nat->List Nat:=
 List.rec (motive:=λ_=>List Nat->List Nat) (λacc=>acc) (λo _ ih acc=>frc (QP acc o.after.toList) λa=>ih (zX acc [a])) l
def lj(x:Operand):Option Nat:=match x with|.tmp t=>some t|_=>none
def F1(t:Nat)(l:List Operand):Bool:=List.rec false (λx _ ih=>Z (lj x) ih λu=>ifB (Nat.beq u t) true ih) l
def looks(ops:List Oper)(o:Oper)(t:Nat):Bool:=
 ifB (F1 t o.op.operands.toList) true (Z o.guard false λg=>Z (yG g.1 ops) false λq=>Z q.dst false λd=>Nat.beq d t)
def bit(m i:Nat):Bool:=Nat.beq (land (Nat.shiftRight m i) 1) 1
def late(ops:List Oper)(w:Nat)(t:Nat)(l:List Oper):List Nat->Bool:=
 List.rec (motive:=λ_=>List Nat->Bool) (λ_=>false)
  (λo _ ih as=>lC as false λa as=>ifB (looks ops o t) (ifB (bit a w) (ih as) true) (ih as)) l
def xS(b:Builtin):Bool:=match b with|.len=>true|.cap=>true|.min=>true|.max=>true|_=>false
def gT(c:Call):Bool:=match c.callee with|.builtin b=>xS b|_=>false
def toInt(E:Env)(t:TypeId):Bool:=Z (E.desc t) false isInt
def yO(E:Env)(o:Op):Nat:=
 match o with
 | .move _=>0|.assign _=>0|.pick _ _ _=>0|.build _ _=>0|.load _ _=>0|.nilCheck _=>0|.binOp _ _ _ _ _=>0|.unOp _ _ _=>0
 | .makeInterface _ _=>0|.makeFunc _ _ _=>0|.slice _ _ _ _ _=>0|.fieldAddr _ _ _=>0|.field _ _ _=>0|.indexAddr _ _ _=>0|.index _ _ _=>0
 | .lookup _ _ _ _=>0|.typeAssert _ _ _ _=>0|.extract _ _=>0
 | .convert _ d _=>ifB (toInt E d) 0 2
 | .call c=>ifB (gT c) 0 2
 | .alloc _=>1|.box _ _=>1|.buildSlice _ _ _=>1|.makeSlice _ _ _=>1
 | _=>2
def kindOf(E:Env)(ops:List Oper)(as:List Nat)(i:Nat)(o:Oper):Nat:=
 Z o.dst (ifB (Nat.beq (yO E o.op) 1) 2 (yO E o.op)) λd=>ifB (late ops i d ops as) 2 (yO E o.op)
def fv(E:Env)(ops:List Oper)(as:List Nat)(l:List Oper):Nat->List Nat->List OpM:=
 List.rec (motive:=λ_=>Nat->List Nat->List OpM) (λ_ _=>[])
  (λo _ ih i bs=>lC bs [] λa bs=>frc (Zu o.after.toList) λp=>frc (kindOf E ops as i o) λk=>⟨i,p,a,k,o⟩::ih (Nat.succ i) bs) l
def qM(E:Env)(ops:List Oper):List OpM:=fv E ops (Y6 ops []) ops 0 (Y6 ops [])
def fo(t:Nat)(l:List Oper):Bool:=List.rec true (λo _ ih=>Z o.dst ih λd=>ifB (Nat.beq d t) false ih) l
def Qw(l:List Oper):Bool:=List.rec true (λo r ih=>Z o.dst ih λd=>ifB (fo d r) ih false) l
def VR(a b:Nat):Bool:=Nat.beq (land a b) a
def KC(m i:Nat):Nat:=lor m (Nat.shiftLeft 1 i)
def isK(k:Nat)(m:OpM):Bool:=Nat.beq m.kind k
abbrev DrF:=Nat->M G->Heap->jr
def PQ(E:Env)(rec:Rec)(n:Nat)(ops:List Oper)(m:OpM)(D:Nat)(T:M G)(H:Heap)(k:DrF):jr:=
 frc (KC D m.i) λD'=>cY E rec n ops m.o (λT H=>k D' T H) T H
def bX(E:Env)(rec:Rec)(n:Nat)(ops:List Oper)(k:DrF)(l:List OpM):DrF:=
 List.rec (motive:=λ_=>DrF) k
  (λm _ ih D T H=>ifB (bit D m.i) (ih D T H) (ifB (L (kV (isK 2 m)) (VR m.pre D)) (PQ E rec n ops m D T H ih) (ih D T H))) l
def sameAs(T:M G)(dst:Option Tmp)(v:G):Bool:=Z dst true λd=>Z (T.get d) false λu=>qF u v
def Z1:Rec:=λ_ _ _ _=>.fail
def bid(v:G):Option Nat:=match v with|.ptr b _=>some b|.slice b _ _ _ _=>some b|_=>none
def SP(m:Nat)(v:G):G:=match v with|.ptr _ o=>.ptr m o|.slice _ o l c x=>.slice m o l c x|v=>v
def I7(r q:Row):Bool:=L (Nat.beq r.t q.t) (L (Nat.beq r.n q.n) (Fc r.c q.c))
def B9(T:M G)(H:Heap)(dst:Option Tmp)(r:G×Heap):Bool:=
 Z dst false λd=>Z (T.get d) false λu=>Z (bid u) false λm=>Z (H.row m) false λq=>Z (r.2.row H.next) false λq'=>
  L (qF (SP m r.1) u) (I7 q q')
def pJ(E:Env)(T:M G)(H:Heap)(row:Bool)(o:Oper):Bool:=
 Z (aop o.op E Z1 T H) false λr=>ifB row (B9 T H o.dst r) (sameAs T o.dst r.1)
def again(E:Env)(ops:List Oper)(T:M G)(H:Heap)(row:Bool)(o:Oper):Bool:=
 Z o.guard (pJ E T H row o) λg=>ifB (np ops T g) false (ifB (KM ops T g) (pJ E T H row o) (sameAs T o.dst jo))
def ic(E:Env)(ops:List Oper)(HA D:Nat)(T:M G)(H:Heap)(l:List OpM):Bool:=
 List.rec true (λm _ ih=>ifB (L (kV (isK 2 m)) (L (bit D m.i) (kV (bit HA m.i)))) (ifB (again E ops T H (isK 1 m) m.o) ih false) ih) l
def enabled(D:Nat)(l:List OpM):List OpM:=List.rec [] (λm _ ih=>ifB (L (kV (bit D m.i)) (VR m.pre D)) (m::ih) ih) l
def Yv(next:Nat->DrF)(E:Env)(rec:Rec)(n:Nat)(ops:List Oper)(ms:List OpM)(HA:Nat):DrF:=λD T H=>
 ifB (ic E ops HA D T H ms)
  (lC (enabled D ms) (ifB (Nat.beq (Nat.succ D) (Nat.shiftLeft 1 (je ops 0))) (.nrm T H) .fail)
   λm r=>lC r (ifB (isK 2 m) (frc (lor HA m.anc) λHA'=>PQ E rec n ops m D T H (next HA')) .fail) λ_ _=>.fail) .fail
def zbd(E:Env)(rec:Rec)(n:Nat)(ops:List Oper)(ms:List OpM)(f:Nat):Nat->DrF:=
 Nat.rec (motive:=λ_=>Nat->DrF) (λ_ _ _ _=>.fail) (λ_ ih HA=>bX E rec n ops (Yv ih E rec n ops ms HA) ms) f
def uS(E:Env)(rec:Rec)(n:Nat)(ops:List Oper)(T:M G)(H:Heap):jr:=
 ifB (Qw ops) (zbd E rec n ops (qM E ops) (Nat.succ (je ops 0)) 0 0 T H) .fail
abbrev VA:=Env->Rec->Fr->M G->Heap->jr
def NJ:VA:=λ_ _ _ _ _=>.fail
def zcg:VA:=λ_ _ _ T H=>.nrm T H
def TF(ops:Array Oper)(draw:Bool):VA:=λE rec fr T H=>ifB draw (uS E rec fr.n ops.toList T H) (zbI E rec fr.n ops.toList ops.toList T H)
def zi6(a b:VA):VA:=λE rec fr T H=>@jr.rec (λ_=>jr) .fail (λT H=>b E rec fr T H) (λid T H=>.ex id T H) (λT H=>.ret T H) (a E rec fr T H)
def zgs(c:Operand)(a b:VA):VA:=λE rec fr T H=>Z (ev T c) .fail λv=>Z (asBool v) .fail λq=>ifB q (a E rec fr T H) (b E rec fr T H)
def zdT(id:Nat)(a:VA):VA:=λE rec fr T H=>
 @jr.rec (λ_=>jr) .fail (λT H=>.nrm T H) (λj T H=>ifB (Nat.beq j id) (.nrm T H) (.ex j T H)) (λT H=>.ret T H) (a E rec fr T H)
def fI(a b:Option G):Option G:=ifB (oeq a b) a (some Sp)
def XY(t:M G):M G:=M.rec .nil (λ_ v _ l r=>.node l (Z v none λ_=>some Sp) r) t
def ZZ(t:M G):M G->M G:=
 M.rec (motive:=λ_=>M G->M G) (λs=>XY s)
  (λl v r ihl ihr s=>M.rec (motive:=λ_=>M G) (XY (.node l v r)) (λl' v' r' _ _=>.node (ihl l') (fI v v') (ihr r')) s) t
def zdB(a b:Option X):Bool:=Z a (Z b true λ_=>false) λx=>Z b false λy=>Q0 x y
def TY(t:M X):M X->Bool:=
 M.rec (motive:=λ_=>M X->Bool) (λs=>M.rec (motive:=λ_=>Bool) true (λ_ _ _ _ _=>false) s)
  (λ_ v _ ihl ihr s=>M.rec (motive:=λ_=>Bool) false (λl v' r _ _=>L (zdB v v') (L (ihl l) (ihr r))) s) t
def heq(H H':Heap):Bool:=L (Nat.beq H.next H'.next) (TY H.blk H'.blk)
def CQ(a b:jr):jr:=
 match a,b with
 | .nrm T H,.nrm T' H'=>ifB (heq H H') (.nrm (ZZ T T') H) .fail
 | .ret T H,.ret T' H'=>ifB (heq H H') (.ret (ZZ T T') H) .fail
 | .ex i T H,.ex j T' H'=>ifB (L (Nat.beq i j) (heq H H')) (.ex i (ZZ T T') H) .fail
 | _,_=>.fail
def W4(run:List Fact->jr)(l:List (List Fact)):jr:=List.rec (motive:=λ_=>jr) .fail (λf r ih=>lC r (run f) λ_ _=>CQ (run f) ih) l
def roundOf(T:M G)(t:Nat):Option Nat:=bnd (T.get t) λv=>bnd (asInt v) λp=>Wk p.2 some
def WM(E:Env)(fn:FuncId)(T:M G):Option (List (List Fact)):=bnd (E.alts.get fn) λq=>bnd (roundOf T q.1) λi=>yG i q.2
def CM(c:Code)(rec:Rec)(fr:Fr)(r:jr):jr:=@jr.rec (λ_=>jr) .fail (λT H=>rec fr (.loop c) T H) (λj T H=>.ex j T H) (λT H=>.ret T H) r
def zgq(c:Code)(a:VA):VA:=λE rec fr T H=>
 CM c rec fr (Z (WM E fr.fn T) (a E rec fr T H) λl=>W4 (λf=>a (E.plus f) Z1 fr T H) l)
def zgr(id:Nat):VA:=λ_ _ _ T H=>.ex id T H
def zi7:VA:=λ_ _ _ T H=>.ret T H
def jump(c:Code)(T:M G)(H:Heap):jr:=match c with|.ret=>.ret T H|.exit id=>.ex id T H|_=>.fail
def su(l:Nat)(T:M G)(H:Heap):jr:=
 Z (H.lp l) .fail λq=>ifB (zdV q.st) .fail (Z q.pend (.nrm T (H.J8 l q .exhausted q.pend)) λc=>jump c T (H.J8 l q .exhausted q.pend))
def zdb(fr:Fr)(H:Heap):Bool:=Z fr.ro true λl=>Z (H.lp l) false λ_=>true
def zic(v:G):Option (FuncId×List G×List G):=match v with|.fn f l m=>some (f,l,m)|_=>none
def Cn(E:Env)(rec:Rec)(fr:Fr)(T:M G)(H:Heap)(l:Nat)(q:FuncId×List G×List G)(ps:Array Tmp)(assign body:Code):jr:=
 Z (qL E rec q.1 (zX q.2.1 (zX [.yieldf l] q.2.2)) ⟨H.blk.set l (.loop .ready none fr.fn fr.n T ps assign body),Nat.succ l⟩) .fail λr=>su l T r.2
def fH(f:Operand)(ps:Array Tmp)(assign body:Code):VA:=λE rec fr T H=>
 ifB (zdb fr H) (Z (ev T f) .fail λv=>Z (zic v) .fail λq=>Z (E.spec.get q.1) (frc H.next λl=>Cn E rec fr T H l q ps assign body) λ_=>.fail) .fail
def Jd(c:Code):VA:=@Code.rec (λ_=>VA)
 zcg (λ_ ops d=>TF ops d) (λ_ _ a b=>zi6 a b) (λc _ _ a b=>zgs c a b) (λid _ a=>zdT id a) (λc a=>zgq c a)
 (λf ps a b _ _=>fH f ps a b) (λid=>zgr id) (λ_ _=>NJ) (λ_=>zcg) (λ_=>NJ) zi7 (λ_=>NJ) c
def kh(E:Env)(n:Nat):Rec:=Nat.rec (motive:=λ_=>Rec) (λ_ _ _ _=>.fail) (λ_ ih fr c T H=>Jd c E ih fr T H) n
end
end
end Go.AEv
