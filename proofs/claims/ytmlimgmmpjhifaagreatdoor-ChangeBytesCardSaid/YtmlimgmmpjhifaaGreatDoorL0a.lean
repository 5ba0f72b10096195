/- Changes, their encodings and texts: calls and runs (L0a). Conditions: those of each theorem. -/
import Derived.Test.YtmlimgmmpjhifaaGreatDoorEvSe
import Derived.Test.YtmlimgmmpjhifaaGreatDoorProg
import Derived.WalkKit
import Derived.ArgAppend
import Derived.Deep.Upon
import Derived.Lib.Walk
import Derived.Deep.LoopGhost
import Derived.Lib.Hide
import Derived.IntWalk
import Derived.BigQuiet
import Derived.Deep.QuietTactic
import Derived.Laws.Cover2
import Derived.Laws.Bits64b
import Derived.Laws.BitsLemmas
import Derived.Lib.LazyBuf
import Derived.Laws.IdiomStrings
import Derived.KernelRfl
import Derived.Shelf.LaysM
import Derived.Shelf.Strconv.Itoa3
import Derived.Test.YtmlimgmmpjhifaaGreatDoorRows
import Derived.LaidMore
import Derived.Lay
import Derived.LaidLaws
import Derived.JoinedOf
import Derived.Test.YtmlimgmmpjhifaaGreatDoorCards
import Derived.SevenTiedAt
set_option maxHeartbeats 4000000
set_option maxRecDepth 100000
set_option linter.all false
namespace Go.AEv
section
open Go Go.Proofs
namespace TR
theorem yW (b:Nat):∀ (vs:List Value) (o:Nat) (w:World) (arr:Array Value) (t:TypeId) (fz:Nat×Nat),w.heap[b]? = some (.cells arr t fz)→o+vs.length≤arr.size →
  ∃ arr',(w.setCells b o vs).heap[b]? = some (.cells arr' t fz)∧arr'.size=arr.size∧(∀ j,j<vs.length→arr'[o+j]? = vs[j]?)∧∀ i,i<o∨o+vs.length≤i→arr'[i]? = arr[i]?
 | [],o,w,arr,t,fz,h,_=>⟨arr,h,rfl,fun j hj=>absurd hj (Nat.not_lt_zero _),fun _ _=>rfl⟩
 | v::r,o,w,arr,t,fz,h,hs=>by
  have hs:o+(r.length+1)≤arr.size:=hs
  have h1:(w.setCell ⟨b,o,none⟩ v).heap[b]? = some (.cells (arr.setIfInBounds o v) t fz):=by
   unfold World.setCell
   rw [Array.getElem?_modify,if_pos rfl,h]
   rfl
  obtain ⟨arr',g1,g2,g3,g4⟩:=yW b r (o+1) _ _ t fz h1 (by rw [Array.size_setIfInBounds];omega)
  rw [Array.size_setIfInBounds]at g2
  refine ⟨arr',g1,g2,fun j hj=>?_,fun i hi=>?_⟩
  ·cases j with
   | zero=>
    rw [Nat.add_zero,g4 o (by omega),Array.getElem?_setIfInBounds_self,if_pos (by omega)]
    rfl
   | succ j=>
    have:=g3 j (by simpa using hj)
    rw [show o+(j+1)=o+1+j by omega,this]
    rfl
  ·have hi:i<o∨o+(r.length+1)≤i:=hi
   rw [g4 i (by omega),Array.getElem?_setIfInBounds,if_neg (by omega)]
theorem yB (b:Nat):∀ (vs:List Value) (o:Nat) (w:World),(w.setCells b o vs).heap.size=w.heap.size
 | [],_,_=>rfl
 | v::r,o,w=>by
  refine (yB b r (o+1) _).trans ?_
  unfold World.setCell
  exact Array.size_modify
theorem yA (b:Nat):∀ (vs:List Value) (o:Nat) (w:World),(w.setCells b o vs).tape=w.tape
 | [],_,_=>rfl
 | _::r,o,_=>yA b r (o+1) _
theorem cell_of_row {w:World}{x:Nat×Nat×Nat}{t:TypeId}{vs:List Value} (h:zx Tryz.prog w x t vs) {j:Nat}{v:Value} (hj:vs[j]? = some v):w.cell? ⟨x.1,x.2.1+j,none⟩=some v:=by
 obtain ⟨arr,fz,h1,h2,h3,h4,h5⟩:=h
 unfold World.cell?
 rw [h1]
 exact (h5 j (List.getElem?_eq_some_iff.1 hj).1).trans hj
def D1 (v:Value) (w w2:World):Prop:=∀ (c:Nat),c<w.heap.size→(∀ (p:Addr) (n m:Nat),v = .slice (some p) n m→p.block≠c)→w2.heap[c]? = w.heap[c]?
structure qF (v:Value) (w w2:World):Prop where
 qA:D1 v w w2
 size:w.heap.size≤w2.heap.size
 tape:w2.tape=w.tape
 os:w2.os=w.os
 output:w2.output=w.output
theorem zx.lt {P:Program}{w:World}{x:Nat×Nat×Nat}{t:TypeId}{vs:List Value} (h:zx P w x t vs):x.1<w.heap.size:=by
 obtain ⟨arr,fz,h1,_⟩:=h
 exact (Array.getElem?_eq_some_iff.1 h1).1
theorem zV {P:Program}{w w':World}{x:Nat×Nat×Nat}{t:TypeId}{vs:List Value} (h:zx P w x t vs) (e:w'.heap[x.1]? = w.heap[x.1]?):zx P w' x t vs:=by
 unfold zx at h ⊢
 rw [e]
 exact h
theorem zk {w w2:World} (g:Grown w w2) {x:Nat×Nat×Nat}{t:TypeId}{vs:List Value} (h:zx Tryz.prog w x t vs):zx Tryz.prog w2 x t vs:=zV h (g.old _ (zx.lt h))
end TR
theorem Grown.trans' {a b c:World} (h:Grown a b) (k:Grown b c):Grown a c:=
 ⟨fun i hi=>by rw [k.old i (Nat.lt_of_lt_of_le hi h.size),h.old i hi],Nat.le_trans h.size k.size,k.tape.trans h.tape,k.os.trans h.os,k.output.trans h.output⟩
theorem za (w:World) (o:Obj):Grown w (w.alloc o):=
 ⟨fun i hi=>by unfold World.alloc;exact Array.getElem?_push_lt hi ▸ (Array.getElem?_eq_getElem hi).symm,by unfold World.alloc;simp,rfl,rfl,rfl⟩
namespace RD
theorem zL (w:World):Grown w w:=⟨fun _ _=>rfl,Nat.le_refl _,rfl,rfl,rfl⟩
theorem ze {w w2:World}{a:Addr}{v:Value} (h:w.cell? a=some v) (g:Grown w w2):w2.cell? a=some v:=by
 rw [World.cell?_of_block (g.old _ (World.block_lt_of_cell? w a h))]
 exact h
theorem zE {w w2:World}{a:Addr}{v:Value} (h:w.cell? a=some v) (hf:w.frozen? a=false) (g:Grown w w2):w2.frozen? a=false:=by
 rw [World.frozen?_of_block (g.old _ (World.block_lt_of_cell? w a h))]
 exact hf
end RD
end
section
open Go Go.Proofs TR
namespace MK
def tC (N:Nat) (w:World) (e:Ending) (w2:World):Prop:=∃ s:ByteArray,e = .returned (.string s)∧s.size≤N∧Grown w w2
def D3 (w:World) (e:Ending) (w2:World):Prop:=∃ b:Bool,e = .returned (.bool b)∧w=w2
theorem lL {w:World}{s r:Int}:Calls Tryz.prog 73 #[.int .u64 s,.int .i64 r] w (D3 w):=by
 go_enter Tryz.func73,Tryz.ntmps73
 go_wp2
 all_goals (go_ret;exact ⟨_,rfl,rfl⟩)
theorem wrap64 {n:Int} (h0:-9223372036854775808≤n) (h1:n≤9223372036854775807):IntKind.i64.wrap n=n:=by
 unfold IntKind.wrap
 simp [IntKind.bits,IntKind.signed]
 omega
abbrev ten:ByteArray:={ data:=#[48,49,50,51,52,53,54,55,56,57] }
abbrev W4 (i:Int):ByteArray:=ten.extract i.toNat (i+1).toNat
theorem kj (i:Int):(W4 i).size≤1:=by rw [ByteArray.size_extract];omega
theorem Zm (w:World) {i:Int} (h0:0≤i) (h1:i<10):(Instr.slice 9 (.string ten) (some (.int .i64 i)) (some (.int .i64 (i+1))) none).run Tryz.prog w = .ok (.string (W4 i)) w:=
 run_slice_string w 9 ten .i64 .i64 i (i+1) (by kernel_rfl) h0 (by omega) (by show i+1≤10;omega)
def W9:Nat→Int→ByteArray
 | 0,n=>W4 n
 | d+1,n=>if n<10 then W4 n else W9 d (Int.tdiv n 10)++W4 (Int.tmod n 10)
theorem Zn:∀ (d:Nat) (n:Int),(W9 d n).size≤d+1
 | 0,n=>kj n
 | d+1,n=>by
  unfold W9
  split
  ·have:=kj n;omega
  ·rw [ByteArray.size_append]
   have:=Zn d (Int.tdiv n 10)
   have:=kj (Int.tmod n 10)
   omega
def Qt (v:Value) (w:World) (e:Ending) (w2:World):Prop:=e = .returned v∧∃ m,w2=w.drewN m
theorem Qt.same {v:Value}{w:World}:Qt v w (.returned v) w:=⟨rfl,0,rfl⟩
theorem Qt.is {v u:Value}{w w2:World}{m:Nat} (h:v=u) (k:w2=w.drewN m):Qt u w (.returned v) w2:=⟨by rw [h],m,k⟩
theorem Ju (d:Nat):∀ {w:World}{n:Int},0≤n→n≤1000000000000→d≤20→n<10 ^ (d+1)→Calls Tryz.prog 119 #[.int .i64 n] w (Qt (.string (W9 d n)) w):=by
 induction d with
 | zero=>
  intro w n h0 h64 hd20 h1
  have h1:n<10:=h1
  have hr:=Zm w h0 h1
  go_enter Tryz.func119,Tryz.ntmps119
  go_wp2
  go_ret
  exact Qt.same
 | succ d ih=>
  intro w n h0 h64 hd20 h1
  by_cases hn:n<10
  ·have hr:=Zm w h0 hn
   have hd:W9 (d+1) n=W4 n:=by unfold W9;rw [if_pos hn]
   rw [hd]
   go_enter Tryz.func119,Tryz.ntmps119
   go_wp2
   go_ret
   exact Qt.same
  ·have hd:W9 (d+1) n=W9 d (Int.tdiv n 10)++W4 (Int.tmod n 10):=by conv=>lhs;unfold W9;rw [if_neg hn]
   rw [hd]
   have hq:Int.tdiv n 10=n / 10:=Int.tdiv_eq_ediv_of_nonneg h0
   have hm:Int.tmod n 10=n % 10:=Int.tmod_eq_emod_of_nonneg h0
   have hr:=fun w=>Zm w (i:=Int.tmod n 10) (by omega) (by omega)
   have h2:Int.tdiv n 10<10 ^ (d+1):=by rw [Int.pow_succ]at h1;omega
   have h3:0≤Int.tdiv n 10:=by omega
   have h4:Int.tdiv n 10≤1000000000000:=by omega
   have hw1:IntKind.i64.wrap (Int.tdiv n 10)=Int.tdiv n 10:=wrap64 (by omega) (by omega)
   have hw2:IntKind.i64.wrap (Int.tmod n 10)=Int.tmod n 10:=wrap64 (by omega) (by omega)
   have hw3:IntKind.i64.wrap (Int.tmod n 10+1)=Int.tmod n 10+1:=wrap64 (by omega) (by omega)
   have hadd:=fun w=>run_string_add (P:=Tryz.prog) w (W9 d (Int.tdiv n 10)) (W4 (Int.tmod n 10)) (by have:=Zn d (Int.tdiv n 10);omega) (by have:=kj (Int.tmod n 10);omega)
   clear hq hm
   go_enter Tryz.func119,Tryz.ntmps119
   go_wp2_with fail
   go_quiet (first | (go_at_call 119;exact Calls.quiet_of (ih h3 h4 (by omega) h2)))
   go_wp2
   go_ret
   exact ⟨rfl,_,rfl⟩
end MK
end
section
open Go Go.Proofs TR
namespace GT
structure zO (et:TypeId) (sz lo:Nat) (w:World) (v:Value) (n:Nat) (vs:List Value):Prop where
 len:vs.length=n*sz
 ex:(n=0∧v = .slice none 0 0)∨∃ x:Nat×Nat×Nat,v = .slice (some ⟨x.1,x.2.1,none⟩) n (n+x.2.2)∧zx Tryz.prog w x et vs∧lo≤x.1
structure Ty1 (st et:TypeId) (sz:Nat):Prop where
 u:Tryz.prog.underlying st=some (.slice et)
 k1:(Tryz.prog.info? et).map (·.size)=some sz
 k2:(Tryz.prog.info? et).map (fun i=>Nat.ble i.bytes 1000)=some true
 k3:((Tryz.prog.info? et).bind (·.zero)).map (fun z=>z.cells.size)=some sz
 ts:jC Tryz.prog et=sz
 pos:0<sz
theorem Ty1.inf {st et:TypeId}{sz:Nat} (T:Ty1 st et sz):∃ i z,Tryz.prog.info? et=some i∧i.size=sz∧i.bytes≤1000∧i.zero=some z∧z.cells.size=sz:=by
 have k1:=T.k1
 have k2:=T.k2
 have k3:=T.k3
 cases hi:Tryz.prog.info? et with
 | none=>rw [hi]at k1;cases k1
 | some i=>
  rw [hi]at k1 k2 k3
  obtain ⟨z,hz,hzs⟩:=Option.map_eq_some_iff.1 k3
  exact ⟨i,z,rfl,Option.some.inj k1,Nat.ble_eq.mp (Option.some.inj k2),hz,hzs⟩
theorem zO.grown {et:TypeId}{sz lo:Nat}{w w2:World}{v:Value}{n:Nat}{vs:List Value} (h:zO et sz lo w v n vs) (g:Grown w w2):zO et sz lo w2 v n vs:=
 ⟨h.len,h.ex.imp id fun ⟨x,e,r,l⟩=>⟨x,e,zk g r,l⟩⟩
theorem zO.lower {et:TypeId}{sz lo lo':Nat}{w:World}{v:Value}{n:Nat}{vs:List Value} (h:zO et sz lo w v n vs) (hl:lo'≤lo):zO et sz lo' w v n vs:=
 ⟨h.len,h.ex.imp id fun ⟨x,e,r,l⟩=>⟨x,e,r,Nat.le_trans hl l⟩⟩
theorem lk {et:TypeId}{sz lo n:Nat}{w w':World}{v':Value}{vs:List Value} (hts:jC Tryz.prog et=sz) (hl:vs.length=n*sz) (hn:0<n) (hlo:lo≤w.heap.size) (ho:w'.ownsRow w.heap.size et sz v' n vs):zO et sz lo w' v' n vs∧∃ q c,v' = .slice (some q) n c:=by
 obtain ⟨_,⟨_,h0⟩ | ⟨g,cap,cur,rfl,h1,h2,h3,_,h5,h6⟩⟩:=ho
 ·omega
 ·have hle:n*sz≤cap*sz:=Nat.mul_le_mul_right _ h3
  refine ⟨⟨hl,.inr ⟨(g,0,cap-n),?_,⟨cur,(0,0),h2,?_,fun i _ h=>by omega,Nat.dvd_zero _,fun j hj=>?_⟩,Nat.le_trans hlo h1⟩⟩,_,_,rfl⟩
  ·rw [show n+(cap-n)=cap by omega]
  ·rw [hl,hts,h5]
   show 0+n*sz+(cap-n)*sz≤cap*sz
   rw [Nat.sub_mul]
   omega
  ·rw [Nat.zero_add,← h6,List.getElem?_take,if_pos (by rw [← hl];exact hj),Array.getElem?_toList]
theorem YB (w:World) {ops:Array Oper}{rest:List Oper}{o:Oper}{a:Act}{Q:Exit→Act→World→Prop}{st et:TypeId}{sz:Nat} (T:Ty1 st et sz) (s x:Operand) {lo n m c0:Nat}{ad:Addr}{vs us:List Value}
  (hg:o.guard=none) (hop:o.op=Op.call { callee:=Callee.builtin Builtin.append,args:=#[s,x],argTypes:=#[st,st] }) (hrows:zO et sz lo w (a.eval s) n vs) (few:n+m≤100000) (hm:0<m) (hlo:lo≤w.heap.size)
  (hx:a.eval x = .slice (some ad) m c0) (hu:us.length=m*sz) (hc:∀ j u,us[j]? = some u→w.cell? (ad.add j)=some u) (hone:∀ u∈us,u.oneCell'=true)
  (hK:∀ v' w',zO et sz lo w' v' (n+m) (vs++us)→(∃ q c,v' = .slice (some q) (n+m) c)→qF (a.eval s) w w'→wpList Tryz.prog ops Q rest (a.put o.dst v') w') :
  wpList Tryz.prog ops Q (o::rest) a w:=by
 obtain ⟨i,z,hi,k1,k2,hz,hzs⟩:=T.inf
 have hb2:(n+m)*i.bytes≤140737488355328:=Nat.le_trans (Nat.mul_le_mul few k2) (by decide)
 have hb1:n+m≤maxLen:=by unfold maxLen;omega
 have hlen:(vs++us).length=(n+m)*sz:=by rw [List.length_append,hrows.len,hu,Nat.add_mul]
 have grown:∀ v' w',w'.ownsRow w.heap.size et sz v' (n+m) (vs++us)→w.grownBy w' none→wpList Tryz.prog ops Q rest (a.put o.dst v') w':=by
  intro v' w' ho hgr
  obtain ⟨h1,h2⟩:=lk T.ts hlen (by omega) hlo ho
  exact hK v' w' h1 h2 ⟨fun c hc _=>hgr.block c hc (by simp),hgr.size,hgr.tape,hgr.os,hgr.output⟩
 rcases hrows.ex with ⟨rfl,hs⟩ | ⟨y,hs,hrow,hlo2⟩
 ·have hv:vs=[]:=List.eq_nil_of_length_eq_zero (by rw [hrows.len,Nat.zero_mul])
  subst hv
  exact wpList_append_grows w hg s x st hop et i z sz i.bytes T.u hi hz k1 rfl hzs T.pos none 0 0 [] hs (fun _=>⟨rfl,rfl⟩) (by simp) (fun b h=>by cases h) _ m c0 _ hx hu hc hone (by omega) hb1 hb2 grown
 ·have hrow':=hrow
  obtain ⟨arr,fz,r1,r2,r3,r4,r5⟩:=hrow'
  rw [hrows.len,T.ts]at r2
  have hold:∀ (j:Nat) (u:Value),vs[j]? = some u→w.cell? ⟨y.1,y.2.1+j,none⟩=some u:=fun j u hj=>TR.cell_of_row hrow hj
  have room:n+m≤n+y.2.2→y.2.1+n*sz+m*sz≤arr.size:=fun hr=>by
   have:m*sz≤y.2.2*sz:=Nat.mul_le_mul_right _ (by omega)
   omega
  refine wpList_append_arg w hg s x st hop et i z sz i.bytes T.u hi hz k1 rfl hzs T.pos y.1 y.2.1 n (n+y.2.2) vs hs hrows.len hold _ m c0 _ hx hu hc hone (fun hr j hj=>?_) hb1 hb2 (fun hr=>?_) fun _=>grown
  ·have:=room hr
   have hlt:y.2.1+n*sz+j<arr.size:=by omega
   refine ⟨?_,?_⟩
   ·unfold World.cell?
    rw [r1]
    show (arr[y.2.1+n*sz+j]?).isSome=true
    rw [Array.getElem?_eq_getElem hlt]
    rfl
   ·unfold World.frozen?
    rw [r1]
    have:=r3 _ hlt
    show (decide (fz.1≤y.2.1+n*sz+j)&&decide (y.2.1+n*sz+j<fz.2))=false
    rw [Bool.and_eq_false_iff,decide_eq_false_iff_not,decide_eq_false_iff_not]
    omega
  ·have hroom:=room hr
   have hsz:y.2.1+n*sz+us.length≤arr.size:=by rw [hu];exact hroom
   obtain ⟨arr',g1,g2,g3,g4⟩:=yW y.1 us (y.2.1+n*sz) w arr et fz r1 hsz
   refine hK _ _ ⟨hlen,.inr ⟨(y.1,y.2.1,y.2.2-m),?_,⟨arr',fz,g1,?_,fun i hi=>r3 i (by omega),r4,fun j hj=>?_⟩,hlo2⟩⟩ ⟨_,_,rfl⟩ ⟨fun c hc hne=>?_,?_,yA _ _ _ _,?_,?_⟩
   ·rw [show n+m+(y.2.2-m)=n+y.2.2 by omega]
   ·rw [hlen,T.ts,g2]
    show y.2.1+(n+m)*sz+(y.2.2-m)*sz≤arr.size
    rw [Nat.sub_mul,Nat.add_mul]
    have:m*sz≤y.2.2*sz:=Nat.mul_le_mul_right _ (by omega)
    omega
   ·show arr'[y.2.1+j]? = _
    rcases Nat.lt_or_ge j vs.length with h | h
    ·rw [List.getElem?_append_left h,g4 _ (by rw [hrows.len]at h;omega)]
     exact r5 j h
    ·rw [List.getElem?_append_right h]
     rw [List.length_append]at hj
     have:=g3 (j-vs.length) (by omega)
     rw [← hrows.len,show y.2.1+vs.length+(j-vs.length)=y.2.1+j by omega]at this
     exact this
   ·refine World.heap_setCells_other w _ _ _ hc fun e=>hne _ _ _ hs e.symm
   ·rw [yB];exact Nat.le_refl _
   ·exact World.os_setCells _ _ _ _
   ·exact World.output_setCells _ _ _ _
theorem jq {et:TypeId}{sz:Nat}{w0 w w2:World}{v:Value}{n:Nat}{vs:List Value} (g:Grown w0 w) (h:zO et sz w0.heap.size w v n vs) (k:qF v w w2):Grown w0 w2:=by
 refine ⟨fun c hc=>?_,Nat.le_trans g.size k.size,k.tape.trans g.tape,k.os.trans g.os,k.output.trans g.output⟩
 rw [k.qA c (Nat.lt_of_lt_of_le hc g.size) fun p m c' e hp=>?_,g.old c hc]
 rcases h.ex with ⟨_,e'⟩ | ⟨x,e',_,hl⟩
 ·rw [e']at e;cases e
 ·rw [e']at e
  cases e
  have hp:x.1=c:=hp
  omega
theorem tyS:Ty1 139 147 2:=⟨by kernel_rfl,by kernel_rfl,by kernel_rfl,by kernel_rfl,by kernel_rfl,by decide⟩
theorem tyR:Ty1 66 141 7:=⟨by kernel_rfl,by kernel_rfl,by kernel_rfl,by kernel_rfl,by kernel_rfl,by decide⟩
theorem tyT:Ty1 69 9 1:=⟨by kernel_rfl,by kernel_rfl,by kernel_rfl,by kernel_rfl,by kernel_rfl,by decide⟩
theorem tyI:Ty1 68 3 1:=⟨by kernel_rfl,by kernel_rfl,by kernel_rfl,by kernel_rfl,by kernel_rfl,by decide⟩
end GT
end
section
open Go Go.Proofs TR
namespace MK
open Go.AEv.GT (zO)
def Cs (w:World) (p:Option Addr) (us:List Value):Prop:=us≠[]→∃ b o,p=some ⟨b,o,none⟩∧∀ j u,us[j]? = some u→w.cell? ⟨b,o+j,none⟩=some u
theorem Cs.grown {w w2:World}{p:Option Addr}{us:List Value} (h:Cs w p us) (g:Grown w w2):Cs w2 p us:=fun hn=>by
 obtain ⟨b,o,e,hc⟩:=h hn
 exact ⟨b,o,e,fun j u hj=>RD.ze (hc j u hj) g⟩
theorem ju {et:TypeId}{sz lo:Nat}{w:World}{v:Value}{n:Nat}{vs:List Value} (h:zO et sz lo w v n vs):∃ p c,v = .slice p n c∧n≤c∧Cs w p vs∧∀ a,p=some a→lo≤a.block:=by
 rcases h.ex with ⟨rfl,rfl⟩ | ⟨x,rfl,hr,hl⟩
 ·refine ⟨none,0,rfl,Nat.le_refl _,fun hn=>?_,fun a e=>by cases e⟩
  exact absurd (List.eq_nil_of_length_eq_zero (by rw [h.len,Nat.zero_mul])) hn
 ·exact ⟨_,_,rfl,by omega,fun _=>⟨x.1,x.2.1,rfl,fun j u hj=>TR.cell_of_row hr hj⟩,fun a e=>by cases e;exact hl⟩
def kt (x:Int×Int):List Value:=[.int .i64 x.1,.int .i64 x.2]
theorem UF:∀ (l:List (Int×Int)) {j:Nat}{x:Int×Int},l[j]? = some x→(l.flatMap kt)[j*2]? = some (.int .i64 x.1)∧(l.flatMap kt)[j*2+1]? = some (.int .i64 x.2)
 | [],j,x,h=>by simp at h
 | y::l,0,x,h=>by simp at h;subst h;exact ⟨rfl,rfl⟩
 | y::l,j+1,x,h=>by
  have:=UF l (j:=j) (x:=x) (by simpa using h)
  rw [List.flatMap_cons,show (j+1)*2=j*2+2 by omega]
  exact this
theorem Cs.span {w:World}{p:Option Addr}{l:List (Int×Int)} (h:Cs w p (l.flatMap kt)) {j:Nat}{x:Int×Int} (hj:l[j]? = some x):∃ b o,p=some ⟨b,o,none⟩∧w.cell? ⟨b,o+j*2,none⟩=some (.int .i64 x.1)∧w.cell? ⟨b,o+j*2+1,none⟩=some (.int .i64 x.2):=by
 obtain ⟨h1,h2⟩:=UF l hj
 obtain ⟨b,o,e,hc⟩:=h fun e=>by rw [e]at h1;cases h1
 exact ⟨b,o,e,hc _ _ h1,by rw [Nat.add_assoc];exact hc _ _ h2⟩
def Js (l:List (Int×Int)) (d:Int):Bool:=l.any fun x=>decide (x.1≤d)&&decide (d≤x.2)
def GrV (v:Value) (w:World) (e:Ending) (w2:World):Prop:=e = .returned v∧Grown w w2
theorem dX {l:List (Int×Int)}{j:Nat}{x:Int×Int}{d:Int} (hx:l[j]? = some x):Js (l.drop j) d=(decide (x.1≤d)&&decide (d≤x.2)||Js (l.drop (j+1)) d):=by
 obtain ⟨h1,h2⟩:=List.getElem?_eq_some_iff.1 hx
 rw [List.drop_eq_getElem_cons h1,h2]
 rfl
theorem sq {l:List (Int×Int)}{j:Nat}{x:Int×Int}{d:Int} (hx:l[j]? = some x) (h:¬ (x.1≤d∧d≤x.2)):Js (l.drop j) d=Js (l.drop (j+1)) d:=by
 rw [dX hx]
 have:(decide (x.1≤d)&&decide (d≤x.2))=false:=by
  rw [Bool.and_eq_false_iff,decide_eq_false_iff_not,decide_eq_false_iff_not]
  omega
 rw [this,Bool.false_or]
theorem uO {l:List (Int×Int)}{j:Nat}{x:Int×Int}{d:Int} (hx:l[j]? = some x) (h1:x.1≤d) (h2:d≤x.2):Js (l.drop j) d=true:=by
 rw [dX hx,decide_eq_true h1,decide_eq_true h2]
 rfl
theorem uP {l:List (Int×Int)}{j:Nat}{d:Int} (hj:l.length≤j):Js (l.drop j) d=false:=by
 rw [List.drop_eq_nil_of_le hj]
 rfl
theorem grV {v u:Value}{w w2:World} (h:u=v) (g:Grown w w2):GrV v w (.returned u) w2:=⟨by rw [h],g⟩
theorem sr {w : World} {p : Option Addr} {l : List (Int × Int)} {n c : Nat} {d : Int} (h : Cs w p (l.flatMap kt)) (hn : l.length = n) (few : n ≤ 1000) : Calls Tryz.prog 120 #[.slice p n c, .int .i64 d] w (GrV (.bool (Js l d)) w) := by
  have H := Lib.hid h
  have F := Lib.hid few
  have N := Lib.hid hn
  clear h few hn
  go_enter Tryz.func120, Tryz.ntmps120
  go_wp2
  go_loopg [9] n (fun g i wr => Grown w wr ∧ ∃ j : Nat, j + g = n ∧ i = .int .i64 j ∧ Js l d = Js (l.drop j) d)
  case atStart => exact ⟨RD.zL _, 0, by omega, rfl, rfl⟩
  case round =>
    obtain ⟨hg, j, hj, rfl, hd⟩ := hrel
    have HD := Lib.hid hd
    have HG := Lib.hid hg
    clear hd hg
    cases gk with
    | zero =>
      have hjm : ¬ ((j : Int) < (n : Int)) := by omega
      go_wp2
      go_ret
      exact grV (by rw [HD.out, uP (by have := N.out; omega)]; rfl) HG.out
    | succ g =>
      have hjm : (j : Int) < (n : Int) := by omega
      have hx : l[j]? = some (l[j]'(by have := N.out; omega)) := List.getElem?_eq_getElem _
      obtain ⟨b, o, rfl, h1, h2⟩ := (H.out.grown HG.out).span hx
      have hw64 : RowKit.wrap64 ((j : Int) + 1) = (j : Int) + 1 := by unfold RowKit.wrap64; have := F.out; omega
      go_wp2
      all_goals first
        | (go_ret
           exact grV (by rw [HD.out, uO hx (by omega) (by omega)]; rfl) (HG.out.trans' (za _ _)))
        | (go_roundg g
           case measure => omega
           case rel => exact ⟨HG.out.trans' (za _ _), j + 1, by omega, (by first | rfl | (rw [hw64]; rfl)), HD.out.trans (sq hx (by omega))⟩)
end MK
end
section
open Go Go.Proofs TR
namespace MK
open Go.AEv.GT (zO)
theorem XY (w:World) {arr:Array Value}{t:TypeId}{us:List Value} (h:arr.toList=us):∀ j u,us[j]? = some u→(w.alloc (.cells arr t)).cell? ((⟨w.heap.size,0,none⟩:Addr).add j)=some u:=fun j u hj=>by
 subst h
 rw [Addr.add_lit]
 unfold World.cell?
 rw [heap_alloc_new w _,Nat.zero_add]
 show arr[j]? = _
 rw [← hj,Array.getElem?_toList]
def cnt (l:List (Int×Int)) (d:Int):Nat:=l.countP fun x=>decide (x.2+1<d)
theorem sS (l:List (Int×Int)) (d:Int):cnt l d≤l.length:=List.countP_le_length
theorem k9 {l:List (Int×Int)}{d e:Int} (h:d≤e):cnt l d≤cnt l e:=List.countP_mono_left fun x _ hx=>decide_eq_true (by have:=of_decide_eq_true hx;omega)
theorem sR {l:List (Int×Int)}{d:Int} (h1:Js l (d-1)=true) (h2:Js l d=false):cnt l d+1≤cnt l (d+1):=by
 induction l with
 | nil=>cases h1
 | cons x l ih=>
  have e:∀ k,Js (x::l) k=(decide (x.1≤k)&&decide (k≤x.2)||Js l k):=fun k=>rfl
  have c:∀ k,cnt (x::l) k=cnt l k+if x.2+1<k then 1 else 0:=fun k=>by
   unfold cnt
   rw [List.countP_cons]
   congr 1
   simp
  rw [e]at h1 h2
  rw [Bool.or_eq_false_iff]at h2
  rw [c,c]
  rw [Bool.or_eq_true]at h1
  rcases h1 with h1 | h1
  ·rw [Bool.and_eq_true]at h1
   have a1:=of_decide_eq_true h1.1
   have a2:=of_decide_eq_true h1.2
   have a3:=h2.1
   rw [Bool.and_eq_false_iff,decide_eq_false_iff_not,decide_eq_false_iff_not]at a3
   have:=k9 (l:=l) (show d≤d+1 by omega)
   rw [if_neg (by omega),if_pos (by omega)]
   omega
  ·have:=ih h1 h2.2
   by_cases k:x.2+1<d
   ·rw [if_pos k,if_pos (by omega)];omega
   ·rw [if_neg k];split<;>omega
structure Sp (lo:Nat) (w:World) (v:Value) (o:List (Int×Int)):Prop where
 row:zO 147 2 lo w v o.length (o.flatMap kt)
 ok:∀ x∈o,0≤x.1∧x.1≤30000∧0≤x.2∧x.2≤30000
theorem Sp.grown {lo:Nat}{w w2:World}{v:Value}{o:List (Int×Int)} (h:Sp lo w v o) (g:Grown w w2):Sp lo w2 v o:=⟨h.row.grown g,h.ok⟩
theorem Sp.nil (lo:Nat) (w:World):Sp lo w (.slice none 0 0) []:=⟨⟨rfl,.inl ⟨rfl,rfl⟩⟩,fun x h=>by cases h⟩
theorem Sp.push {lo:Nat}{w:World}{v:Value}{o:List (Int×Int)}{n:Nat}{x:Int×Int} (h:zO 147 2 lo w v n (o.flatMap kt++kt x)) (hn:n=o.length+1) (ok:∀ x∈o,0≤x.1∧x.1≤30000∧0≤x.2∧x.2≤30000) (hx:0≤x.1∧x.1≤30000∧0≤x.2∧x.2≤30000):Sp lo w v (o++[x]):=by
 subst hn
 refine ⟨?_,fun y hy=>?_⟩
 ·rw [List.flatMap_append,List.flatMap_singleton,List.length_append]
  exact h
 ·rcases List.mem_append.1 hy with hy | hy
  ·exact ok y hy
  ·rw [List.mem_singleton.1 hy];exact hx
def Gv (l:List (Int×Int)) (w0:World) (g:Nat) (out from_ d:Value) (w:World):Prop:=∃ (j:Nat) (f:Int) (o:List (Int×Int)),j+g=30002∧d = .int .i64 j∧from_ = .int .i64 f∧(f = -1∨0≤f∧f<j∧f≤30000∧Js l (j-1)=true)∧Sp w0.heap.size w out o∧(j≤30001→o.length≤cnt l j)∧o.length≤cnt l j+1∧Grown w0 w
def DY (w:World) (k:Nat) (e:Ending) (w2:World):Prop:=∃ v o,e = .returned v∧Sp w.heap.size w2 v o∧o.length≤k∧Grown w w2
theorem dy {w:World}{p:Option Addr}{l:List (Int×Int)}{n c:Nat} (h:Cs w p (l.flatMap kt)) (hn:l.length=n) (few:n≤100):Calls Tryz.prog 74 #[.slice p n c] w (DY w (n+1)):=by
 have H:=Lib.hid h
 have F:=Lib.hid few
 have N:=Lib.hid hn
 clear h few hn
 go_enter Tryz.func74,Tryz.ntmps74
 go_wp2
 go_loopg [3,4,5] 30002 (fun g out from_ d wr=>Gv l w g out from_ d wr)
 case atStart=>exact ⟨0,-1,[],by omega,rfl,rfl,.inl rfl,Sp.nil _ _,fun _=>Nat.zero_le _,Nat.zero_le _,RD.zL _⟩
 case round=>
  obtain ⟨j,f,o,hj,rfl,rfl,hf,hs,ho',ho,hg⟩:=hrel
  have HO2:=Lib.hid ho'
  have HF:=Lib.hid hf
  have HS:=Lib.hid hs
  have HO:=Lib.hid ho
  have HG:=Lib.hid hg
  clear hf hs ho ho' hg
  cases gk with
  | zero=>
   have hjm:¬ ((j:Int)≤30001):=by omega
   go_wp2
   go_ret
   refine ⟨_,o,rfl,HS.out,?_,HG.out⟩
   have:=HO.out
   have:=sS l j
   have:=N.out
   omega
  | succ g=>
   have hjm:(j:Int)≤30001:=by omega
   have hw64:RowKit.wrap64 ((j:Int)+1)=(j:Int)+1:=by unfold RowKit.wrap64;omega
   have few:RowKit.Hid (o.length+1≤100000):=Lib.hid (by have:=HO.out;have:=sS l j;have:=N.out;have:=F.out;omega)
   go_wp2_with (first
    | (go_at_call 120;(with_reducible refine (sr (H.out.grown HG.out) N.out (by have:=F.out;omega)).mono ?_);rintro e w3 ⟨rfl,hg⟩;have G3:=Lib.hid (HG.out.trans' hg);have S3:=Lib.hid (HS.out.grown hg);clear hg)
    | (at_builtin;refine GT.YB _ GT.tyS _ _ rfl rfl (S3.out.row.grown (za _ _)) few.out Nat.one_pos (G3.out.trans' (za _ _)).size rfl (us:=kt (f,(j:Int)-1)) rfl (XY _ rfl) (by intro u hu;simp [kt]at hu;rcases hu with rfl | rfl<;>rfl) ?_;intro v' w4 hr hq hw;have R4:=Lib.hid hr;have G4:=Lib.hid (GT.jq (G3.out.trans' (za _ _)) (S3.out.row.grown (za _ _)) hw);clear hr hq hw)
    | (at_builtin;refine GT.YB _ GT.tyS _ _ rfl rfl (HS.out.row.grown (za _ _)) few.out Nat.one_pos (HG.out.trans' (za _ _)).size rfl (us:=kt (f,(j:Int)-1)) rfl (XY _ rfl) (by intro u hu;simp [kt]at hu;rcases hu with rfl | rfl<;>rfl) ?_;intro v' w4 hr hq hw;have R5:=Lib.hid hr;have G5:=Lib.hid (GT.jq (HG.out.trans' (za _ _)) (HS.out.row.grown (za _ _)) hw);clear hr hq hw))
   ·go_roundg g
    case measure=>omega
    case rel=>exact ⟨j+1,j,o,by omega,(by first | rfl | (rw [hw64];rfl)),rfl,.inr ⟨by omega,by omega,by omega,by rw [show ((j+1:Nat):Int)-1=j by omega];assumption⟩,S3.out,fun _=>Nat.le_trans (HO2.out (by omega)) (k9 (by omega)),Nat.le_trans HO.out (Nat.succ_le_succ (k9 (by omega))),G3.out⟩
   ·go_roundg g
    case measure=>omega
    case rel=>exact ⟨j+1,f,o,by omega,(by first | rfl | (rw [hw64];rfl)),rfl,.inr ⟨by omega,by have:=HF.out;omega,by have:=HF.out;omega,by rw [show ((j+1:Nat):Int)-1=j by omega];assumption⟩,S3.out,fun _=>Nat.le_trans (HO2.out (by omega)) (k9 (by omega)),Nat.le_trans HO.out (Nat.succ_le_succ (k9 (by omega))),G3.out⟩
   ·go_roundg g
    case measure=>omega
    case rel=>
     obtain ⟨k1,k2,k3,k4⟩:0≤f∧f<j∧f≤30000∧Js l (j-1)=true:=by rcases HF.out with k | k;exact absurd k (by omega);exact k
     have kc:=sR k4 (Bool.eq_false_iff.2 ‹¬ Js l (j:Int)=true›)
     have ko:=HO2.out (by omega)
     exact ⟨j+1,-1,o++[(f,(j:Int)-1)],by omega,(by first | rfl | (rw [hw64];rfl)),rfl,.inl rfl,Sp.push R4.out rfl S3.out.ok ⟨k1,k3,by show 0≤(j:Int)-1;omega,by show (j:Int)-1≤30000;omega⟩,fun _=>by rw [List.length_append];show o.length+1≤cnt l ((j:Int)+1);omega,by rw [List.length_append];show o.length+1≤cnt l ((j:Int)+1)+1;omega,G4.out⟩
   ·go_roundg g
    case measure=>omega
    case rel=>exact ⟨j+1,f,o,by omega,(by first | rfl | (rw [hw64];rfl)),rfl,.inl (by have:=HF.out;omega),S3.out,fun _=>Nat.le_trans (HO2.out (by omega)) (k9 (by omega)),Nat.le_trans HO.out (Nat.succ_le_succ (k9 (by omega))),G3.out⟩
   ·go_roundg g
    case measure=>omega
    case rel=>
     obtain ⟨k1,k2,k3,k4⟩:0≤f∧f<j∧f≤30000∧Js l (j-1)=true:=by rcases HF.out with k | k;exact absurd k (by omega);exact k
     have ko:=HO2.out (by omega)
     have kc:=k9 (l:=l) (show (j:Int)≤j+1 by omega)
     exact ⟨j+1,-1,o++[(f,(j:Int)-1)],by omega,(by first | rfl | (rw [hw64];rfl)),rfl,.inl rfl,Sp.push R5.out rfl HS.out.ok ⟨k1,k3,by show 0≤(j:Int)-1;omega,by show (j:Int)-1≤30000;omega⟩,fun _=>by omega,by rw [List.length_append];show o.length+1≤cnt l ((j:Int)+1)+1;omega,G5.out⟩
   ·go_roundg g
    case measure=>omega
    case rel=>exact ⟨j+1,f,o,by omega,(by first | rfl | (rw [hw64];rfl)),rfl,.inl (by have:=HF.out;omega),HS.out,fun _=>by omega,Nat.le_trans HO.out (Nat.succ_le_succ (k9 (by omega))),HG.out⟩
end MK
end
section
open Go Go.Proofs TR
namespace MK
open Go.AEv.GT (zO)
structure Jb (w:World) (p:Option Addr) (n:Nat) (ss:List ByteArray):Prop where
 len:ss.length=n
 few:n≤1000
 cs:Cs w p (ss.map Value.string)
 ok:∀ s∈ss,s.size≤12
theorem Jb.grown {w w2:World}{p:Option Addr}{n:Nat}{ss:List ByteArray} (h:Jb w p n ss) (g:Grown w w2):Jb w2 p n ss:=⟨h.len,h.few,h.cs.grown g,h.ok⟩
def kS (ss:List ByteArray) (r:Int):ByteArray:=if 1≤r then (ss[(r-1).toNat]?).getD ⟨#[]⟩ else ⟨#[]⟩
theorem Jb.size {w:World}{p:Option Addr}{n:Nat}{ss:List ByteArray} (h:Jb w p n ss) (r:Int):(kS ss r).size≤12:=by
 unfold kS
 split
 ·cases hx:ss[(r-1).toNat]? with
  | none=>exact Nat.zero_le _
  | some s=>exact h.ok s (List.mem_of_getElem? hx)
 ·exact Nat.zero_le _
theorem Jb.at {w:World}{p:Option Addr}{n:Nat}{ss:List ByteArray} (h:Jb w p n ss) {j:Nat} (hj:j<n):∃ b o,p=some ⟨b,o,none⟩∧w.cell? ⟨b,o+j,none⟩=some (.string (kS ss ((j:Int)+1))):=by
 have hl:ss[j]? = some (ss[j]'(by rw [h.len];exact hj)):=List.getElem?_eq_getElem _
 have hm:(ss.map Value.string)[j]? = some (.string (ss[j]'(by rw [h.len];exact hj))):=by rw [List.getElem?_map,hl];rfl
 obtain ⟨b,o,e,hc⟩:=h.cs fun e=>by rw [e]at hm;cases hm
 refine ⟨b,o,e,?_⟩
 rw [hc j _ hm]
 unfold kS
 rw [if_pos (by omega),show ((j:Int)+1-1).toNat=j by omega,hl]
 rfl
def Ret (v:Value) (w:World) (e:Ending) (w2:World):Prop:=e = .returned v∧w2=w
theorem ret {v u:Value}{w:World} (h:u=v):Ret v w (.returned u) w:=⟨by rw [h],rfl⟩
theorem ke {w:World}{p:Option Addr}{n c:Nat}{ss:List ByteArray} (h:Jb w p n ss) {r:Int}:Calls Tryz.prog 117 #[.slice p n c,.int .i64 r] w (Ret (.string (kS ss r)) w):=by
 have H:=Lib.hid h
 clear h
 by_cases h1:1≤r∧r≤n
 ·obtain ⟨b,o,rfl,hc⟩:=H.out.at (j:=(r-1).toNat) (by omega)
  have e:((r-1).toNat:Int)=r-1:=by omega
  obtain ⟨j,hj⟩:∃ j:Nat,j=(r-1).toNat:=⟨_,rfl⟩
  rw [← hj]at hc e
  have hr:r=(j:Int)+1:=by omega
  subst hr
  have hw:RowKit.wrap64 (j:Int)=(j:Int):=by unfold RowKit.wrap64;have:=H.out.few;omega
  have hj2:(j:Int)<n:=by omega
  have hj3:¬ ((j:Int)+1<1):=by omega
  have hj4:¬ ((n:Int)<(j:Int)+1):=by omega
  clear hj e h1
  go_enter Tryz.func117,Tryz.ntmps117
  go_wp2
  all_goals (go_ret;exact ret rfl)
 ·have hz:kS ss r=⟨#[]⟩:=by
   unfold kS
   split
   ·rw [List.getElem?_eq_none (by rw [H.out.len];omega)];rfl
   ·rfl
  rw [hz]
  go_enter Tryz.func117,Tryz.ntmps117
  go_wp2
  all_goals first
   | (exfalso;omega)
   | (go_ret;exact ret rfl)
end MK
end
section
open Go Go.Proofs TR
namespace MK
open Go.AEv.GT (zO)
theorem ql (w:World) (q:Nat):Grown w (w.drewN q):=⟨fun _ _=>rfl,Nat.le_refl _,rfl,rfl,rfl⟩
theorem DB (a b c d:Int) (w:World):(Op.equalIn 10000 147 (.agg #[.int .i64 a,.int .i64 b]) (.agg #[.int .i64 c,.int .i64 d])).run Tryz.prog w = .ok (a==c&&b==d) w:=by
 have u3:=Tryz.underlying3
 have a3:=Tryz.isAgg3
 have z3:=Tryz.sizeOf3
 rw [show (10000:Nat)=9999+1 from rfl,Op.equalIn]
 simp only [Sem.run_bind,run_underlying Tryz.underlying147,Result.andThen_ok]
 simp only [Std.Legacy.Range.forIn_eq_forIn_range',Std.Legacy.Range.size,Nat.sub_zero,Nat.add_sub_cancel,Nat.div_one,List.range'_succ,List.range'_zero,List.forIn_cons,List.forIn_nil]
 go_simp
 by_cases h1:a=c<;>by_cases h2:b=d<;>simp [h1,h2]
theorem sz1 (x:UInt8):(ByteArray.mk #[x]).size=1:=rfl
def DOk (l:List (Int×Int)):Prop:=∀ x∈l,0≤x.1∧x.1≤30000∧0≤x.2∧x.2≤30000
theorem JW {w:World}{p:Option Addr}{l:List (Int×Int)}{n c:Nat} (h:Cs w p (l.flatMap kt)) (hn:l.length=n) (few:n≤3) (ok:DOk l):Calls Tryz.prog 118 #[.slice p n c] w (tC 40 w):=by
 have H:=Lib.hid h
 have F:=Lib.hid few
 have N:=Lib.hid hn
 have OK:=Lib.hid ok
 clear h few hn ok
 by_cases h0:n=0
 ·subst h0
  go_enter Tryz.func118,Tryz.ntmps118
  go_wp2
  go_ret
  exact ⟨_,rfl,by decide,RD.zL _⟩
 ·have hx0:l[0]? = some (l[0]'(by have:=N.out;omega)):=List.getElem?_eq_getElem _
  obtain ⟨b,o,rfl,h1,h2⟩:=H.out.span hx0
  have hn0:((n:Int)==0)=false:=by simpa using h0
  have hn1:(0:Int)<n:=by omega
  rw [Nat.zero_mul,Nat.add_zero]at h1 h2
  have heq:=fun a b=>DB a b 0 30000
  go_enter Tryz.func118,Tryz.ntmps118
  go_wp2
  ·go_ret
   exact ⟨_,rfl,by decide,RD.zL _⟩
  ·go_loopg [3,16] n (fun g s i wr=>Grown w wr∧∃ (j:Nat) (t:ByteArray),j+g=n∧i = .int .i64 j∧s = .string t∧t.size≤12*j)
   case atStart=>exact ⟨RD.zL _,0,_,by omega,rfl,rfl,by decide⟩
   case round=>
    obtain ⟨hg,j,t,hj,rfl,rfl,ht⟩:=hrel
    have HG:=Lib.hid hg
    clear hg h1 h2
    cases gk with
    | zero=>
     have hjm:¬ ((j:Int)<(n:Int)):=by omega
     go_wp2
     go_ret
     exact ⟨t,rfl,by have:=F.out;omega,HG.out⟩
    | succ g=>
     have hjm:(j:Int)<(n:Int):=by omega
     have hx:l[j]? = some (l[j]'(by have:=N.out;omega)):=List.getElem?_eq_getElem _
     obtain ⟨b,o,e,h1,h2⟩:=(H.out.grown HG.out).span hx
     cases e
     obtain ⟨k1,k2,k3,k4⟩:=OK.out _ (List.getElem_mem (by have:=N.out;omega:j<l.length))
     have hw64:RowKit.wrap64 ((j:Int)+1)=(j:Int)+1:=by unfold RowKit.wrap64;have:=F.out;omega
     have hn3:=F.out
     have hd1:(W9 4 (l[j]'(by have:=N.out;omega)).1).size≤5:=Zn 4 _
     have hd2:(W9 4 (l[j]'(by have:=N.out;omega)).2).size≤5:=Zn 4 _
     go_wp2_with (first
      | (go_at_call 119;(with_reducible refine (Ju 4 (by omega) (by omega) (by omega) (by omega)).mono ?_);rintro e w3 ⟨rfl,m3,rfl⟩))
     all_goals (
      go_roundg g
      case measure=>omega
      case rel=>exact ⟨(HG.out.trans' (za _ _)).trans' (ql _ _),j+1,_,by omega,(by first | rfl | (rw [hw64];rfl)),rfl,by simp only [ByteArray.size_append,sz1];omega⟩)
end MK
end
section
open Go Go.Proofs TR
namespace RD
def In (w:World) (p:Option Addr) (L:List Nat):Prop:=(∀ b∈L,b<256)∧(L≠[]→∃ b o,p=some ⟨b,o,none⟩∧∀ i x,L[i]? = some x→w.cell? ⟨b,o+i,none⟩=some (.int .u8 (x:Nat)))
def num:Nat→Nat→List Nat→Option (Nat×Nat)
 | _,_,[]=>none
 | v,k,b::l=>if (k=0∧b=128)∨144115188075855871<v then none else if b<128 then some (v*128+b % 128,k+1) else num (v*128+b % 128) (k+1) l
theorem XX:∀ (l:List Nat) (v k:Nat) {r:Nat×Nat},num v k l=some r→k<r.2∧r.2≤k+l.length
 | [],_,_,_,h=>by cases h
 | b::l,v,k,r,h=>by
  unfold num at h
  split at h
  ·cases h
  ·split at h
   ·cases h
    exact ⟨Nat.lt_succ_self k,by show k+1≤k+(l.length+1);omega⟩
   ·have:=XX l _ _ h
    exact ⟨by omega,by show r.2≤k+(l.length+1);omega⟩
theorem xE (v b:Nat):(v*128) ||| (b % 128)=v*128+b % 128:=by
 have h:b % 128<2 ^ 7:=Nat.mod_lt _ (by decide)
 have:=Nat.shiftLeft_add_eq_or_of_lt h v
 rw [Nat.shiftLeft_eq]at this
 exact this.symm
theorem rf {v k x:Nat}{l:List Nat}{bk bx bv bl:Bool} (hbk:((k:Int)==0)=bk) (hbx:((x:Int)==128)=bx) (hbv:decide ((144115188075855871:Int)<(v:Int))=bv) (hbl:decide ((x:Int)<128)=bl) :
  num v k (x::l)=if (bk&&bx)||bv then none else if bl then some (v*128+x % 128,k+1) else num (v*128+x % 128) (k+1) l:=by
 have e1:(k=0↔bk=true):=by rw [← hbk];simp
 have e2:(x=128↔bx=true):=by rw [← hbx,beq_iff_eq];omega
 have e3:(144115188075855871<v↔bv=true):=by rw [← hbv,decide_eq_true_eq];omega
 have e4:(x<128↔bl=true):=by rw [← hbl,decide_eq_true_eq];omega
 rw [num.eq_2]
 simp only [e1,e2,e3,e4,Bool.or_eq_true,Bool.and_eq_true]
theorem wraps_u8 (n:Int) (h₀:0≤n) (h₁:n<2 ^ 8):IntKind.u8.wrap n=n:=by
 have:IntKind.u8.wrap n=n % 256:=by simp [IntKind.wrap,IntKind.bits,IntKind.signed]
 rw [this]
 omega
theorem vk {v x:Nat} (hv:v≤144115188075855871) (hx:x<256):bits .or .u64 (IntKind.u64.wrap ((v:Int)*128)) (IntKind.u64.wrap (bits .and .u8 (x:Int) 127))=((v*128+x % 128:Nat):Int):=by
 have h1:bits .and .u8 (x:Int) 127=((x % 128:Nat):Int):=by
  have:=bits_mask .u8 8 (by decide) wraps_u8 7 (by decide) (x:Int) (by omega) (by omega)
  have e1:((2:Int) ^ 7-1)=127:=by decide
  have e2:((2:Int) ^ 7)=128:=by decide
  rw [e1,e2]at this
  rw [this]
  omega
 rw [h1,IntWalk.u64_in _ (by omega),IntWalk.u64_in _ (by omega)]
 have:=bits_or_u64_nat (v*128) (x % 128) (by omega) (by omega)
 rw [xE]at this
 rw [← this]
 rfl
end RD
end
section
open Go Go.Proofs TR
namespace RD
def Zg (w:World) (r:Option (Nat×Nat)) (e:Ending) (w2:World):Prop:=w2=w∧e = .returned (.tuple #[.int .u64 ((r.getD (0,0)).1:Nat),.int .i64 ((r.getD (0,0)).2:Nat)])
theorem Vk {w:World}{r:Option (Nat×Nat)} (h:r=none):Zg w r (.returned (.tuple #[.int .u64 0,.int .i64 0])) w:=by subst h;exact ⟨rfl,rfl⟩
theorem ug {w:World}{r:Option (Nat×Nat)}{v k:Nat} (h:r=some (v,k+1)):Zg w r (.returned (.tuple #[.int .u64 (v:Nat),.int .i64 ((k:Int)+1)])) w:=by subst h;exact ⟨rfl,rfl⟩
theorem uh {v x:Nat} (h:decide ((144115188075855871:Int)<(v:Int))=false):v*128+x % 128<18446744073709551616:=by
 have:=of_decide_eq_false h
 omega
theorem du (w : World) (a : Addr) (b o c : Nat) (L : List Nat) (hL : In w (some ⟨b, o, none⟩) L) (hlen : L.length ≤ 100000) (hc : w.cell? a = some (.slice (some ⟨b, o, none⟩) L.length c)) :
    Calls Tryz.prog 127 #[.pointer (some a)] w (Zg w (num 0 0 L)) := by
  have HL := Lib.hid hL
  clear hL
  go_enter Tryz.func127, Tryz.ntmps127
  go_wp2
  go_loopg [4, 12] L.length (fun g s4 s12 wr => ∃ (v k : Nat), k + g = L.length ∧ s12 = .int .i64 k ∧ s4 = .int .u64 v ∧ v < 18446744073709551616 ∧ num 0 0 L = num v k (L.drop k) ∧ wr = w)
  case atStart => exact ⟨0, 0, by omega, rfl, rfl, by omega, rfl, rfl⟩
  case round =>
    obtain ⟨v, k, hk, rfl, rfl, hv, hn, rfl⟩ := hrel
    cases gk with
    | zero =>
      have hkk : ¬ ((k : Int) < (L.length : Int)) := by omega
      have he : num 0 0 L = none := by rw [hn, List.drop_eq_nil_of_le (by omega)]; rfl
      have HE := Lib.hid he
      clear he hn
      go_wp2
      go_ret2
      exact Vk HE.out
    | succ g =>
      have hkk : (k : Int) < (L.length : Int) := by omega
      obtain ⟨x, hx⟩ : ∃ x, L[k]? = some x := ⟨_, List.getElem?_eq_getElem (by omega)⟩
      have hd : L.drop k = x :: L.drop (k + 1) := by rw [List.drop_eq_getElem_cons (by omega)]; congr 1; rw [List.getElem?_eq_getElem (by omega)] at hx; exact Option.some.inj hx
      have hx256 : x < 256 := HL.out.1 x (List.mem_of_getElem? hx)
      have hcx : wr.cell? ⟨b, o + k, none⟩ = some (.int .u8 (x : Nat)) := by
        obtain ⟨b', o', e, h⟩ := HL.out.2 (by intro h; rw [h] at hx; cases hx)
        cases e
        exact h k x hx
      obtain ⟨bk, hbk⟩ : ∃ b, ((k : Int) == 0) = b := ⟨_, rfl⟩
      obtain ⟨bx, hbx⟩ : ∃ b, ((x : Int) == 128) = b := ⟨_, rfl⟩
      obtain ⟨bv, hbv⟩ : ∃ b, decide ((144115188075855871 : Int) < (v : Int)) = b := ⟨_, rfl⟩
      obtain ⟨bl, hbl⟩ : ∃ b, decide ((x : Int) < 128) = b := ⟨_, rfl⟩
      have hstep := rf (l := L.drop (k + 1)) hbk hbx hbv hbl
      rw [← hd, ← hn] at hstep
      have HS := Lib.hid hstep
      have hbits : bv = false → bits .or .u64 (IntKind.u64.wrap ((v : Int) * 128)) (IntKind.u64.wrap (bits .and .u8 (x : Int) 127)) = ((v * 128 + x % 128 : Nat) : Int) := fun h => vk (by rw [h] at hbv; have := of_decide_eq_false hbv; omega) hx256
      clear hd hn hx hstep
      cases bv with
      | true => cases bk <;> cases bx <;> cases bl <;> (go_wp2; go_ret2; exact Vk HS.out)
      | false =>
        have hb := hbits rfl
        clear hbits
        cases bk <;> cases bx <;> cases bl <;> first
          | (go_wp2; go_ret2; exact Vk HS.out)
          | (go_wp2; go_ret2; exact ug HS.out)
          | (go_wp2; go_roundg g
             case measure => omega
             case rel => exact ⟨v * 128 + x % 128, k + 1, by omega, rfl, rfl, uh hbv, HS.out, rfl⟩)
theorem dv (w:World) (a:Addr) (p:Option Addr) (c:Nat) (hc:w.cell? a=some (.slice p 0 c)):Calls Tryz.prog 127 #[.pointer (some a)] w (Zg w none):=by
 go_enter Tryz.func127,Tryz.ntmps127
 go_wp2
 go_loopg [12] 0 (fun g s12 wr=>s12 = .int .i64 0∧wr=w)
 case atStart=>exact ⟨rfl,rfl⟩
 case round=>
  obtain ⟨rfl,rfl⟩:=hrel
  go_wp2
  go_ret2
  exact Vk rfl
theorem kR {w:World}{a:Addr}{p:Option Addr}{c:Nat}{L:List Nat} (hL:In w p L) (hlen:L.length≤100000) (hc:w.cell? a=some (.slice p L.length c)):Calls Tryz.prog 127 #[.pointer (some a)] w (Zg w (num 0 0 L)):=by
 by_cases h:L=[]
 ·subst h
  exact dv w a p c hc
 ·obtain ⟨b,o,rfl,_⟩:=hL.2 h
  exact du w a b o c L hL hlen hc
end RD
end
section
open Go Go.Proofs TR
namespace RD
def Ys (L:List Nat):List Value:=L.map fun x=>.int .u8 (x:Nat)
theorem under51:Tryz.prog.underlying 22=some (.slice 5):=by kernel_rfl
theorem oF (w:World) {ops:Array Oper}{rest:List Oper}{o:Oper}{a:Act}{Q:Exit→Act→World→Prop} (s x:Operand) {L:List Nat}{b c off:Nat}{ao:Option Addr}
  (hg:o.guard=none) (hop:o.op=Op.call { callee:=Callee.builtin Builtin.append,args:=#[s,x],argTypes:=#[22,22] }) (hs:a.eval s = .slice ao 0 0) (hL:∀ y∈L,y<256) (hne:L≠[]) (hlen:L.length≤100000)
  (hx:a.eval x = .slice (some ⟨b,off,none⟩) L.length c) (hb:∀ i y,L[i]? = some y→w.cell? ⟨b,off+i,none⟩=some (.int .u8 (y:Nat)))
  (hK:∀ p c' w',L.length≤c'→In w' (some p) L→w.heap.size≤p.block→Grown w w'→wpList Tryz.prog ops Q rest (a.put o.dst (.slice (some p) L.length c')) w') :
  wpList Tryz.prog ops Q (o::rest) a w:=by
 obtain ⟨i,hi⟩:∃ i,Tryz.prog.info? 5=some i:=Option.isSome_iff_exists.1 (by kernel_rfl)
 have k1:(Tryz.prog.info? 5).map (·.size)=some 1:=by kernel_rfl
 have k2:(Tryz.prog.info? 5).map (fun i=>Nat.ble i.bytes 1000)=some true:=by kernel_rfl
 have k3:((Tryz.prog.info? 5).bind (·.zero)).map (fun z=>z.cells.size)=some 1:=by kernel_rfl
 rw [hi]at k1 k2 k3
 have k1:i.size=1:=Option.some.inj k1
 have k2:i.bytes≤1000:=Nat.ble_eq.mp (Option.some.inj k2)
 obtain ⟨z,hz,hzs⟩:=Option.map_eq_some_iff.1 k3
 have hz:i.zero=some z:=hz
 have hpos:0<L.length:=List.length_pos_iff.2 hne
 have hb2:(0+L.length)*i.bytes≤140737488355328:=Nat.le_trans (Nat.mul_le_mul (show 0+L.length≤100000 by omega) k2) (by decide)
 have hb1:0+L.length≤maxLen:=by unfold maxLen;omega
 refine wpList_append_grows w hg s x 22 hop 5 i z 1 i.bytes under51 hi hz k1 rfl hzs (by decide) ao 0 0 [] hs (fun _=>⟨rfl,rfl⟩) rfl (fun b _ j u hj=>by cases hj) _ L.length c (Ys L) hx (by unfold Ys;simp) (fun j u hj=>?_) (fun u hu=>?_) (by omega) hb1 hb2 fun v' w' ho hgr=>?_
 ·unfold Ys at hj
  rw [List.getElem?_map]at hj
  obtain ⟨y,hy,rfl⟩:=Option.map_eq_some_iff.1 hj
  rw [Addr.add_lit]
  exact hb j y hy
 ·unfold Ys at hu
  obtain ⟨y,_,rfl⟩:=List.mem_map.1 hu
  rfl
 ·obtain ⟨_,⟨_,h0⟩ | ⟨g,cap,cur,rfl,h1,h2,h3,_,h5,h6⟩⟩:=ho
  ·omega
  ·have hg2:Grown w w':=⟨fun c hc=>hgr.block c hc (by simp),hgr.size,hgr.tape,hgr.os,hgr.output⟩
   have:=hK ⟨g,0,none⟩ cap w' (by omega) ⟨hL,fun _=>⟨g,0,rfl,fun j y hj=>?_⟩⟩ h1 hg2
   ·rw [show 0+L.length=L.length by omega]
    exact this
   ·have hjl:=(List.getElem?_eq_some_iff.1 hj).1
    have e:(Ys L)[j]? = some (.int .u8 (y:Nat)):=by unfold Ys;rw [List.getElem?_map,hj];rfl
    have h6:List.take ((0+L.length)*1) cur.toList=Ys L:=h6
    rw [← h6,List.getElem?_take,if_pos (by omega),Array.getElem?_toList]at e
    unfold World.cell?
    rw [h2,Nat.zero_add]
    exact e
def Xv (w:World) (L:List Nat) (e:Ending) (w2:World):Prop:=∃ p c,e = .returned (.slice p L.length c)∧Grown w w2∧L.length≤c∧In w2 p L∧(∀ a,p=some a→w.heap.size≤a.block)∧∀ a,p=some a→a.block<w2.heap.size
def Cj (w:World) (L:List Nat) (e:Ending) (w2:World):Prop:=∃ p c,e = .returned (.slice p L.length c)∧Grown w w2∧L.length≤c∧In w2 p L∧∀ a,p=some a→w.heap.size≤a.block
theorem gU {w:World}{a:Addr}{v:Value}{o:Obj} (h:w.cell? a=some v):(w.alloc o).cell? a=some v:=by
 rw [World.cell?_alloc_lt _ _ _ (World.block_lt_of_cell? w a h)]
 exact h
theorem ey {w:World}{b o:Nat}{L:List Nat} (h:In w (some ⟨b,o,none⟩) L) (hne:L≠[]) (ob:Obj):∀ i y,L[i]? = some y→(w.alloc ob).cell? ⟨b,o+i,none⟩=some (.int .u8 (y:Nat)):=by
 obtain ⟨b',o',e,h⟩:=h.2 hne
 cases e
 exact fun i y hi=>gU (h i y hi)
theorem C4 {w:World}{p:Addr}{L:List Nat} (h:In w (some p) L) (hn:L≠[]):p.block<w.heap.size:=by
 obtain ⟨b,o,e,hc⟩:=h.2 hn
 cases e
 obtain ⟨x,l,rfl⟩:=List.exists_cons_of_ne_nil hn
 exact World.block_lt_of_cell? w _ (hc 0 x rfl)
theorem nil_eq (w:World) (a:Option Addr) (l c:Nat):(binOp BinOp.eql 22 (.slice a l c) (.slice none 0 0)).run Tryz.prog w = .ok (.bool a.isNone) w:=run_eql_slice_nil w 22 5 a l c under51
theorem gN (w:World) (b o c:Nat) (L:List Nat) (hL:In w (some ⟨b,o,none⟩) L) (hne:L≠[]) (hlen:L.length≤100000):Calls Tryz.prog 78 #[.slice (some ⟨b,o,none⟩) L.length c] w (Xv w L):=by
 have HL:=Lib.hid hL
 have HN:=Lib.hid hne
 have HE:=Lib.hid hlen
 clear hL hne hlen
 have hnil:=nil_eq
 go_enter Tryz.func78,Tryz.ntmps78
 go_wp2_with (at_builtin;refine oF _ _ _ rfl rfl rfl HL.out.1 HN.out HE.out rfl (ey HL.out HN.out _) ?_;intro p c' w' h1 h2 h3 h4;have H1:=Lib.hid h1;have H2:=Lib.hid h2;have H3:=Lib.hid h3;have H4:=Lib.hid h4;clear h1 h2 h3 h4)
 go_ret
 exact ⟨some p,c',rfl,(za w _).trans' H4.out,H1.out,H2.out,(fun a ha=>by cases ha;exact Nat.le_trans (za w _).size H3.out),fun a ha=>(by cases ha;exact C4 H2.out HN.out)⟩
theorem bu (w:World) (p:Option Addr):In w p []:=⟨fun b hb=>(by cases hb),fun h=>absurd rfl h⟩
theorem n8 (w:World) (c:Nat):Calls Tryz.prog 78 #[.slice none 0 c] w (Xv w []):=by
 have hnil:=nil_eq
 go_enter Tryz.func78,Tryz.ntmps78
 go_wp2
 go_ret
 exact ⟨none,0,rfl,⟨fun _ _=>rfl,Nat.le_refl _,rfl,rfl,rfl⟩,Nat.le_refl _,bu _ _,fun a ha=>(by cases ha),fun a ha=>(by cases ha)⟩
theorem ew (w:World) (a:Addr) (c:Nat):Calls Tryz.prog 78 #[.slice (some a) 0 c] w (Xv w []):=by
 have hnil:=nil_eq
 go_enter Tryz.func78,Tryz.ntmps78
 go_wp2
 go_ret
 exact ⟨some _,0,rfl,za w _,Nat.le_refl _,bu _ _,(fun a ha=>by cases ha;exact Nat.le_refl _),fun a ha=>by cases ha;unfold World.alloc;simp⟩
theorem WT {w:World}{p:Option Addr}{c:Nat}{L:List Nat} (hL:In w p L) (hlen:L.length≤100000):Calls Tryz.prog 78 #[.slice p L.length c] w (Xv w L):=by
 by_cases h:L=[]
 ·subst h
  cases p with
  | none=>exact n8 w c
  | some a=>exact ew w a c
 ·obtain ⟨b,o,rfl,_⟩:=hL.2 h
  exact gN w b o c L hL h hlen
theorem KM {w:World}{p:Option Addr}{c:Nat}{L:List Nat} (hL:In w p L) (hlen:L.length≤100000):Calls Tryz.prog 78 #[.slice p L.length c] w (Cj w L):=
 (WT hL hlen).mono fun _ _ h=>by
  obtain ⟨p,c,h1,h2,h3,h4,h5,_⟩:=h
  exact ⟨p,c,h1,h2,h3,h4,h5⟩
end RD
end
section
open Go Go.Proofs TR
namespace RD
structure qe (b:Nat) (w w2:World):Prop where
 old:∀ c,c<w.heap.size→c≠b→w2.heap[c]? = w.heap[c]?
 size:w.heap.size≤w2.heap.size
 tape:w2.tape=w.tape
 os:w2.os=w.os
 output:w2.output=w.output
 ty:∀ (arr:Array Value) (t:TypeId) (fz:Nat×Nat),w.heap[b]? = some (.cells arr t fz)→∃ arr2,w2.heap[b]? = some (.cells arr2 t fz)
theorem qe.refl (b:Nat) (w:World):qe b w w:=⟨fun _ _ _=>rfl,Nat.le_refl _,rfl,rfl,rfl,fun arr _ _ h=>⟨arr,h⟩⟩
theorem qe.trans {b:Nat}{x y z:World} (h:qe b x y) (k:qe b y z):qe b x z:=
 ⟨fun c hc hn=>by rw [k.old c (Nat.lt_of_lt_of_le hc h.size) hn,h.old c hc hn],Nat.le_trans h.size k.size,k.tape.trans h.tape,k.os.trans h.os,k.output.trans h.output,fun arr t fz h0=>by obtain ⟨a1,h1⟩:=h.ty arr t fz h0;exact k.ty a1 t fz h1⟩
theorem qe.qu {b:Nat}{x y:World} (h:Grown x y):qe b x y:=⟨fun c hc _=>h.old c hc,h.size,h.tape,h.os,h.output,fun arr _ _ h0=>⟨arr,(h.old b (Array.getElem?_eq_some_iff.1 h0).1).trans h0⟩⟩
theorem kY (b o:Nat) (v:Value) (w:World):qe b w (w.setCell ⟨b,o,none⟩ v):=by
 refine ⟨fun c _ hn=>?_,?_,rfl,rfl,rfl,fun arr t fz h0=>⟨arr.setIfInBounds o v,?_⟩⟩
 ·unfold World.setCell
  rw [Array.getElem?_modify,if_neg (fun h=>hn h.symm)]
 ·unfold World.setCell
  exact Nat.le_of_eq Array.size_modify.symm
 ·unfold World.setCell
  rw [Array.getElem?_modify,if_pos rfl,h0]
  rfl
def Ty (w:World) (b:Nat):Prop:=∃ arr fz,w.heap[b]? = some (.cells arr 164 fz)
theorem Ty.only {b:Nat}{w w2:World} (h:Ty w b) (k:qe b w w2):Ty w2 b:=by
 obtain ⟨arr,fz,h⟩:=h
 obtain ⟨a2,h2⟩:=k.ty _ _ _ h
 exact ⟨a2,fz,h2⟩
theorem Vq {b:Nat}{w w2:World}{p:Option Addr}{L:List Nat} (h:In w p L) (k:qe b w w2) (hs:∀ a,p=some a→a.block≠b):In w2 p L:=by
 refine ⟨h.1,fun hn=>?_⟩
 obtain ⟨b',o,rfl,hc⟩:=h.2 hn
 refine ⟨b',o,rfl,fun i x hi=>?_⟩
 have:=hc i x hi
 rw [World.cell?_of_block (k.old b' (World.block_lt_of_cell? w _ this) (hs _ rfl))]
 exact this
theorem uI {w:World}{b o:Nat}{L:List Nat} (h:In w (some ⟨b,o,none⟩) L) (n:Nat):In w (some ⟨b,o+n,none⟩) (L.drop n):=by
 refine ⟨fun y hy=>h.1 y (List.mem_of_mem_drop hy),fun hn=>?_⟩
 have hL:L≠[]:=fun e=>hn (by rw [e,List.drop_nil])
 obtain ⟨b',o',e,hc⟩:=h.2 hL
 cases e
 refine ⟨b,o+n,rfl,fun i x hi=>?_⟩
 rw [List.getElem?_drop]at hi
 rw [show o+n+i=o+(n+i) by omega]
 exact hc _ x hi
theorem uH {w:World}{p:Option Addr}{L:List Nat} (h:In w p L) (n:Nat):In w p (L.take n):=by
 refine ⟨fun y hy=>h.1 y (List.mem_of_mem_take hy),fun hn=>?_⟩
 have hL:L≠[]:=fun e=>hn (by rw [e,List.take_nil])
 obtain ⟨b,o,rfl,hc⟩:=h.2 hL
 refine ⟨b,o,rfl,fun i x hi=>hc i x ?_⟩
 rw [List.getElem?_take]at hi
 split at hi
 ·exact hi
 ·cases hi
structure At (w:World) (b g:Nat) (L:List Nat) (e:Int):Prop where
 left:∃ p c,w.cell? ⟨b,0,none⟩=some (.slice p L.length c)∧L.length≤c∧In w p L∧∀ a,p=some a→a.block=g
 sep:g≠b
 err:w.cell? ⟨b,1,none⟩=some (.int .i64 e)
 fz0:w.frozen? ⟨b,0,none⟩=false
 fz1:w.frozen? ⟨b,1,none⟩=false
 few:L.length≤100000
theorem At.grown {w w2:World}{b g:Nat}{L:List Nat}{e:Int} (h:At w b g L e) (k:Grown w w2):At w2 b g L e:=by
 obtain ⟨p,c,h1,h2,h3,h4⟩:=h.left
 have hb:=k.old b (World.block_lt_of_cell? w _ h.err)
 refine ⟨⟨p,c,by rw [World.cell?_of_block (a:=⟨b,0,none⟩) hb];exact h1,h2,?_,h4⟩,h.sep,by rw [World.cell?_of_block (a:=⟨b,1,none⟩) hb];exact h.err,by rw [World.frozen?_of_block (a:=⟨b,0,none⟩) hb];exact h.fz0,by rw [World.frozen?_of_block (a:=⟨b,1,none⟩) hb];exact h.fz1,h.few⟩
 refine ⟨h3.1,fun hn=>?_⟩
 obtain ⟨b',o,rfl,hc⟩:=h3.2 hn
 refine ⟨b',o,rfl,fun i x hi=>?_⟩
 have:=hc i x hi
 rw [World.cell?_of_block (k.old b' (World.block_lt_of_cell? w _ this))]
 exact this
theorem At.fail {w:World}{b g:Nat}{L:List Nat}{e:Int} (h:At w b g L e) (e':Int):At (w.setCell ⟨b,1,none⟩ (.int .i64 e')) b g L e':=by
 obtain ⟨p,c,h1,h2,h3,h4⟩:=h.left
 exact ⟨⟨p,c,by rw [World.cell?_setCell_other _ _ _ _ (by simp)];exact h1,h2,Vq h3 (kY b 1 _ w) (fun a ha e=>h.sep ((h4 a ha).symm.trans e)),h4⟩,h.sep,World.cell?_setCell_same _ _ _ h.err,by rw [World.frozen?_setCell];exact h.fz0,by rw [World.frozen?_setCell];exact h.fz1,h.few⟩
section
variable {w:World}{b g:Nat}{L:List Nat}
theorem kK (h:At w b g L 0):Calls Tryz.prog 79 #[.pointer (some ⟨b,0,none⟩)] w fun e w2=>e = .returned (.bool true)∧w=w2:=by
 have he:=h.err
 clear h
 go_enter Tryz.func79,Tryz.ntmps79
 go_wp2
 go_ret
 exact ⟨rfl,rfl⟩
theorem ll {er:Int} (h:At w b g L er) (hn:er≠0):Calls Tryz.prog 79 #[.pointer (some ⟨b,0,none⟩)] w fun e w2=>e = .returned (.bool false)∧w=w2:=by
 have he:=h.err
 have hz:(er==0)=false:=by simpa using hn
 clear h hn
 go_enter Tryz.func79,Tryz.ntmps79
 go_wp2
 go_ret
 exact ⟨rfl,rfl⟩
theorem nU (h:At w b g L 0) (er:Int):Calls Tryz.prog 126 #[.pointer (some ⟨b,0,none⟩),.int .i64 er] w fun e w2=>e = .returned (.tuple #[])∧At w2 b g L er∧qe b w w2:=by
 have H:=Lib.hid h
 have he:=h.err
 have hf:=h.fz1
 clear h
 go_enter Tryz.func126,Tryz.ntmps126
 go_wp2_with (go_at_call 79;(with_reducible refine (kK H.out).mono ?_);rintro e w1 ⟨rfl,rfl⟩)
 refine ⟨rfl,_,results_none rfl _ _ _,rfl,H.out.fail er,kY b 1 _ w⟩
theorem jP (er:Int):Calls Tryz.prog 80 #[.pointer (some ⟨b,0,none⟩),.bool false,.int .i64 er] w fun e w2=>e = .returned (.bool true)∧w=w2:=by
 go_enter Tryz.func80,Tryz.ntmps80
 go_wp2
 go_ret
 exact ⟨rfl,rfl⟩
theorem kJ (h:At w b g L 0) (er:Int):Calls Tryz.prog 80 #[.pointer (some ⟨b,0,none⟩),.bool true,.int .i64 er] w fun e w2=>e = .returned (.bool false)∧At w2 b g L er∧qe b w w2:=by
 have H:=Lib.hid h
 clear h
 go_enter Tryz.func80,Tryz.ntmps80
 go_wp2_with (go_at_call 126;(with_reducible refine (nU H.out er).mono ?_);rintro e w1 ⟨rfl,h1,h2⟩;have H1:=Lib.hid h1;have H2:=Lib.hid h2;clear h1 h2)
 go_ret
 exact ⟨rfl,H1.out,H2.out⟩
def Ck (w:World) (L:List Nat) (n:Nat) (e:Ending) (w2:World):Prop:=∃ p c,e = .returned (.slice p n c)∧Grown w w2∧L.length≤c∧In w2 p L∧∀ a,p=some a→w.heap.size≤a.block
theorem ve {w:World}{p:Option Addr}{c n:Nat}{L:List Nat} (hL:In w p L) (hlen:L.length≤100000) (hn:L.length=n):Calls Tryz.prog 78 #[.slice p n c] w (Ck w L n):=by
 subst hn
 exact KM hL hlen
theorem At.set {w:World}{b g:Nat}{L L':List Nat}{e:Int}{m:Nat} (h:At w b g L e) {p:Option Addr}{c:Nat} (hm:L'.length=m) (hc:L'.length≤c) (hi:In w p L') (hs:∀ a,p=some a→a.block=g) (hf:L'.length≤100000):At (w.setCell ⟨b,0,none⟩ (.slice p m c)) b g L' e:=by
 obtain ⟨p0,c0,h1,_,_,_⟩:=h.left
 subst hm
 exact ⟨⟨p,c,World.cell?_setCell_same _ _ _ h1,hc,Vq hi (kY b 0 _ w) (fun a ha e=>h.sep ((hs a ha).symm.trans e)),hs⟩,h.sep,by rw [World.cell?_setCell_other _ _ _ _ (by simp)];exact h.err,by rw [World.frozen?_setCell];exact h.fz0,by rw [World.frozen?_setCell];exact h.fz1,hf⟩
theorem yH {w w2:World}{p:Option Addr}{L:List Nat} (h:In w p L) (g:Grown w w2):In w2 p L:=by
 refine ⟨h.1,fun hn=>?_⟩
 obtain ⟨b,o,rfl,hc⟩:=h.2 hn
 exact ⟨b,o,rfl,fun i x hi=>ze (hc i x hi) g⟩
theorem Bh {w:World}{p:Option Addr}{L:List Nat} (h:In w p L) (n:Nat):In w (Option.map (fun x=>x.add n) p) (L.drop n):=by
 by_cases hL:L=[]
 ·subst hL
  rw [List.drop_nil]
  exact bu _ _
 ·obtain ⟨b,o,rfl,_⟩:=h.2 hL
  show In w (some (Addr.add ⟨b,o,none⟩ n)) (L.drop n)
  rw [Addr.add_lit]
  exact uI h n
theorem tV {p:Option Addr}{b:Nat} (h:∀ a,p=some a→a.block=b) (n:Nat):∀ a,Option.map (fun x=>x.add n) p=some a→a.block=b:=by
 intro a ha
 obtain ⟨x,rfl,rfl⟩:=Option.map_eq_some_iff.1 ha
 have:(x.add n).block=x.block:=by unfold Addr.add;split<;>rfl
 rw [this]
 exact h x rfl
def wF (w:World) (b g:Nat) (L:List Nat) (e:Int) (n:Nat) (en:Ending) (w2:World):Prop:=∃ p c,en = .returned (.slice p n c)∧In w2 p (L.take n)∧(∀ a,p=some a→w.heap.size≤a.block)∧(L.take n).length≤c∧At w2 b g (L.drop n) e∧qe b w w2
theorem JD {er:Int} (h:At w b g L er) {n:Nat} (hn:n≤L.length):Calls Tryz.prog 84 #[.pointer (some ⟨b,0,none⟩),.int .i64 (n:Nat)] w (wF w b g L er n):=by
 obtain ⟨p,c,h1,h2,h3,h4⟩:=h.left
 have H:=Lib.hid h
 have HI:=Lib.hid h3
 have HS:=Lib.hid h4
 have hf:=h.fz0
 have hn0:(0:Int)≤(n:Int):=by omega
 have hnl:(n:Int)≤(L.length:Int):=by omega
 have hnc:(n:Int)≤(c:Int):=by omega
 clear h h3 h4
 go_enter Tryz.func84,Tryz.ntmps84
 have HT:RowKit.Hid ((L.take n).length=n):=Lib.hid (by rw [List.length_take];omega)
 have HF:RowKit.Hid ((L.take n).length≤100000):=Lib.hid (by have:=H.out.few;rw [List.length_take];omega)
 go_wp2_with (go_at_call 78;(with_reducible refine (ve (uH HI.out n) HF.out HT.out).mono ?_);rintro e w1 ⟨p',c',rfl,k1,k2,k3,k4⟩;have K1:=Lib.hid k1;have K2:=Lib.hid k2;have K3:=Lib.hid k3;have K4:=Lib.hid k4;have h1':=ze h1 k1;have hf':=zE h1 hf k1;clear k1 k2 k3 k4)
 ·have hln:L.length=n:=by have:=H.out.few;omega
  have hd:L.drop n=[]:=List.drop_eq_nil_of_le (by omega)
  have hA:At (w1.setCell ⟨b,0,none⟩ (.slice p (L.length-n) 0)) b g (L.drop n) er:=(H.out.grown K1.out).set (by rw [List.length_drop]) (by rw [hd];exact Nat.le_refl 0) (by rw [hd];exact bu _ _) HS.out (by rw [hd];exact Nat.zero_le _)
  have hO:qe b w (w1.setCell ⟨b,0,none⟩ (.slice p (L.length-n) 0)):=(qe.qu K1.out).trans (kY _ _ _ _)
  have hI:=Vq K3.out (kY b 0 (.slice p (L.length-n) 0) w1) (fun a ha e=>by have:=K4.out a ha;have:=World.block_lt_of_cell? w _ h1;have:b<w.heap.size:=this;omega)
  have HAA:=Lib.hid (And.intro hA (And.intro hO hI))
  clear hA hO hI
  go_ret
  exact ⟨p',c',rfl,HAA.out.2.2,K4.out,K2.out,HAA.out.1,HAA.out.2.1⟩
 ·have hA:At (w1.setCell ⟨b,0,none⟩ (.slice (Option.map (fun x=>x.add n) p) (L.length-n) (c-n))) b g (L.drop n) er:=(H.out.grown K1.out).set (by rw [List.length_drop]) (by rw [List.length_drop];omega) (yH (Bh HI.out n) K1.out) (tV HS.out n) (by have:=H.out.few;rw [List.length_drop];omega)
  have hO:qe b w (w1.setCell ⟨b,0,none⟩ (.slice (Option.map (fun x=>x.add n) p) (L.length-n) (c-n))):=(qe.qu K1.out).trans (kY _ _ _ _)
  have hI:=Vq K3.out (kY b 0 (.slice (Option.map (fun x=>x.add n) p) (L.length-n) (c-n)) w1) (fun a ha e=>by have:=K4.out a ha;have:=World.block_lt_of_cell? w _ h1;have:b<w.heap.size:=this;omega)
  have HAA:=Lib.hid (And.intro hA (And.intro hO hI))
  clear hA hO hI
  go_ret
  exact ⟨p',c',rfl,HAA.out.2.2,K4.out,K2.out,HAA.out.1,HAA.out.2.1⟩
end
end RD
end
section
open Go Go.Proofs TR
namespace RD
def OkP (w:World) (b g:Nat) (L:List Nat) (v:Value) (e:Ending) (w2:World):Prop:=e = .returned v∧At w2 b g L 0∧qe b w w2
def J2 (w:World) (b g:Nat) (L:List Nat) (v:Value) (e:Ending) (w2:World):Prop:=∃ er:Int,er≠0∧e = .returned v∧At w2 b g L er∧qe b w w2
section
variable {w:World}{b g:Nat}{L:List Nat}
theorem dx (h:At w b g L 0) (hn:num 0 0 L=none):Calls Tryz.prog 127 #[.pointer (some ⟨b,0,none⟩)] w fun e w2=>e = .returned (.tuple #[.int .u64 0,.int .i64 0])∧w=w2:=by
 obtain ⟨p,c,h1,h2,h3,h4⟩:=h.left
 refine (kR h3 h.few h1).mono fun e w2 hp=>?_
 rw [hn]at hp
 exact ⟨hp.2,hp.1.symm⟩
theorem Jp (h:At w b g L 0) {v n:Nat} (hn:num 0 0 L=some (v,n)):Calls Tryz.prog 127 #[.pointer (some ⟨b,0,none⟩)] w fun e w2=>e = .returned (.tuple #[.int .u64 (v:Nat),.int .i64 (n:Nat)])∧w=w2:=by
 obtain ⟨p,c,h1,h2,h3,h4⟩:=h.left
 refine (kR h3 h.few h1).mono fun e w2 hp=>?_
 rw [hn]at hp
 exact ⟨hp.2,hp.1.symm⟩
theorem uint_none (h:At w b g L 0) (hn:num 0 0 L=none) {m:Nat} (hb:m≤9000000000000000000):Calls Tryz.prog 81 #[.pointer (some ⟨b,0,none⟩),.int .u64 (m:Nat)] w (J2 w b g L (.int .u64 0)):=by
 have H:=Lib.hid h
 clear h
 have HN:=Lib.hid hn
 clear hn
 go_enter Tryz.func81,Tryz.ntmps81
 go_wp2_with (first
  | (go_at_call 79;(with_reducible refine (kK H.out).mono ?_);rintro e w1 ⟨rfl,rfl⟩)
  | (go_at_call 80;(with_reducible refine (jP _).mono ?_);rintro e w1 ⟨rfl,rfl⟩)
  | (go_at_call 80;(with_reducible refine (kJ H.out _).mono ?_);rintro e w1 ⟨rfl,h1,h2⟩;have H1:=Lib.hid h1;have H2:=Lib.hid h2;clear h1 h2)
  | (go_at_call 127;(with_reducible refine (dx H.out HN.out).mono ?_);rintro e w1 ⟨rfl,rfl⟩))
 go_ret
 exact ⟨_,(by decide),rfl,H1.out,H2.out⟩
theorem uint_big (h:At w b g L 0) {v n m:Nat} (hn:num 0 0 L=some (v,n)) (hb:m≤9000000000000000000) (hv:m<v):Calls Tryz.prog 81 #[.pointer (some ⟨b,0,none⟩),.int .u64 (m:Nat)] w (J2 w b g L (.int .u64 0)):=by
 have H:=Lib.hid h
 clear h
 have HN:=Lib.hid hn
 have hle:=XX _ _ _ hn
 have hz:((n:Int)==0)=false:=by simp;have:=hle.1;omega
 have hd:decide ((m:Int)<(v:Int))=true:=decide_eq_true (by omega)
 have hd2:decide (m<v)=true:=decide_eq_true (by omega)
 clear hn hle
 go_enter Tryz.func81,Tryz.ntmps81
 go_wp2_with (first
  | (go_at_call 79;(with_reducible refine (kK H.out).mono ?_);rintro e w1 ⟨rfl,rfl⟩)
  | (go_at_call 80;(with_reducible refine (jP _).mono ?_);rintro e w1 ⟨rfl,rfl⟩)
  | (go_at_call 80;(with_reducible refine (kJ H.out _).mono ?_);rintro e w1 ⟨rfl,h1,h2⟩;have H1:=Lib.hid h1;have H2:=Lib.hid h2;clear h1 h2)
  | (go_at_call 127;(with_reducible refine (Jp H.out HN.out).mono ?_);rintro e w1 ⟨rfl,rfl⟩))
 go_ret
 exact ⟨_,(by decide),rfl,H1.out,H2.out⟩
theorem uint_ok (h:At w b g L 0) {v n m:Nat} (hn:num 0 0 L=some (v,n)) (hb:m≤9000000000000000000) (hv:v≤m):Calls Tryz.prog 81 #[.pointer (some ⟨b,0,none⟩),.int .u64 (m:Nat)] w (OkP w b g (L.drop n) (.int .u64 (v:Nat))):=by
 have H:=Lib.hid h
 clear h
 have HN:=Lib.hid hn
 have hle:=XX _ _ _ hn
 have hz:((n:Int)==0)=false:=by simp;have:=hle.1;omega
 have hd:decide ((m:Int)<(v:Int))=false:=decide_eq_false (by omega)
 have hd2:decide (m<v)=false:=decide_eq_false (by omega)
 have HLE:RowKit.Hid (n≤L.length):=Lib.hid (by have:=hle.2;omega)
 clear hn hle
 go_enter Tryz.func81,Tryz.ntmps81
 go_wp2_with (first
  | (go_at_call 79;(with_reducible refine (kK H.out).mono ?_);rintro e w1 ⟨rfl,rfl⟩)
  | (go_at_call 80;(with_reducible refine (jP _).mono ?_);rintro e w1 ⟨rfl,rfl⟩)
  | (go_at_call 127;(with_reducible refine (Jp H.out HN.out).mono ?_);rintro e w1 ⟨rfl,rfl⟩)
  | (go_at_call 84;(with_reducible refine (JD H.out HLE.out).mono ?_);rintro e w2 ⟨p,c,rfl,t1,t2,t3,t4,t5⟩;have T:=Lib.hid (And.intro t4 t5);clear t1 t2 t3 t4 t5))
 go_ret
 exact ⟨rfl,T.out.1,T.out.2⟩
end
end RD
end
section
open Go Go.Proofs TR
namespace RD
def D2 (w:World) (b g:Nat) (n:Nat) (M L:List Nat) (e:Ending) (w2:World):Prop:=∃ p c,e = .returned (.slice p n c)∧M.length=n∧In w2 p M∧(∀ a,p=some a→w.heap.size≤a.block)∧M.length≤c∧At w2 b g L 0∧qe b w w2
section
variable {w:World}{b g:Nat}{L:List Nat}
theorem sY {er:Int} (h:At w b g L er) (hn:er≠0) (m:Nat):Calls Tryz.prog 83 #[.pointer (some ⟨b,0,none⟩),.int .i64 (m:Nat)] w (J2 w b g L (.slice none 0 0)):=by
 have H:=Lib.hid h
 obtain ⟨p,c,h1,h2,_,_⟩:=id h.left
 clear h
 have HN:=Lib.hid hn
 clear hn
 go_enter Tryz.func83,Tryz.ntmps83
 go_wp2_with (first
  | (go_at_call 79;(with_reducible refine (ll H.out HN.out).mono ?_);rintro e w1 ⟨rfl,rfl⟩))
 go_ret
 exact ⟨er,HN.out,rfl,H.out,qe.refl _ _⟩
theorem gY (h:At w b g L 0) (hn:num 0 0 L=none) (m:Nat):Calls Tryz.prog 83 #[.pointer (some ⟨b,0,none⟩),.int .i64 (m:Nat)] w (J2 w b g L (.slice none 0 0)):=by
 have H:=Lib.hid h
 obtain ⟨p,c,h1,h2,_,_⟩:=id h.left
 clear h
 have HN:=Lib.hid hn
 clear hn
 have hm:decide ((m:Int)<0)=false:=decide_eq_false (by omega)
 go_enter Tryz.func83,Tryz.ntmps83
 go_wp2_with (first
  | (go_at_call 79;(with_reducible refine (kK H.out).mono ?_);rintro e w1 ⟨rfl,rfl⟩)
  | (go_at_call 80;(with_reducible refine (jP _).mono ?_);rintro e w1 ⟨rfl,rfl⟩)
  | (go_at_call 80;(with_reducible refine (kJ H.out _).mono ?_);rintro e w1 ⟨rfl,h1,h2⟩;have H1:=Lib.hid h1;have H2:=Lib.hid h2;clear h1 h2)
  | (go_at_call 127;(with_reducible refine (dx H.out HN.out).mono ?_);rintro e w1 ⟨rfl,rfl⟩))
 go_ret
 exact ⟨_,(by decide),rfl,H1.out,H2.out⟩
theorem oc (h:At w b g L 0) {v n m:Nat} (hn:num 0 0 L=some (v,n)) (hb:m≤1000000) (hv:m<v):Calls Tryz.prog 83 #[.pointer (some ⟨b,0,none⟩),.int .i64 (m:Nat)] w (J2 w b g L (.slice none 0 0)):=by
 have H:=Lib.hid h
 obtain ⟨p,c,h1,h2,_,_⟩:=id h.left
 clear h
 have HN:=Lib.hid hn
 have hle:=XX _ _ _ hn
 have hz:((n:Int)==0)=false:=by simp;have:=hle.1;omega
 have hm:decide ((m:Int)<0)=false:=decide_eq_false (by omega)
 have hw:IntKind.u64.wrap (m:Int)=(m:Int):=IntWalk.u64_in _ (by omega)
 have hd:decide ((m:Int)<(v:Int))=true:=decide_eq_true (by omega)
 have hd2:decide (m<v)=true:=decide_eq_true (by omega)
 clear hn hle
 go_enter Tryz.func83,Tryz.ntmps83
 go_wp2_with (first
  | (go_at_call 79;(with_reducible refine (kK H.out).mono ?_);rintro e w1 ⟨rfl,rfl⟩)
  | (go_at_call 80;(with_reducible refine (jP _).mono ?_);rintro e w1 ⟨rfl,rfl⟩)
  | (go_at_call 80;(with_reducible refine (kJ H.out _).mono ?_);rintro e w1 ⟨rfl,h1,h2⟩;have H1:=Lib.hid h1;have H2:=Lib.hid h2;clear h1 h2)
  | (go_at_call 127;(with_reducible refine (Jp H.out HN.out).mono ?_);rintro e w1 ⟨rfl,rfl⟩))
 go_ret
 exact ⟨_,(by decide),rfl,H1.out,H2.out⟩
theorem eB (h:At w b g L 0) {v n m:Nat} (hn:num 0 0 L=some (v,n)) (hb:m≤1000000) (hv:v≤m) (hs:L.length-n<v):Calls Tryz.prog 83 #[.pointer (some ⟨b,0,none⟩),.int .i64 (m:Nat)] w (J2 w b g L (.slice none 0 0)):=by
 have H:=Lib.hid h
 obtain ⟨p,c,h1,h2,_,_⟩:=id h.left
 clear h
 have hs0:=hs
 clear hs
 have HN:=Lib.hid hn
 have hle:=XX _ _ _ hn
 have hz:((n:Int)==0)=false:=by simp;have:=hle.1;omega
 have hm:decide ((m:Int)<0)=false:=decide_eq_false (by omega)
 have hw:IntKind.u64.wrap (m:Int)=(m:Int):=IntWalk.u64_in _ (by omega)
 have hd:decide ((m:Int)<(v:Int))=false:=decide_eq_false (by omega)
 have hd2:decide (m<v)=false:=decide_eq_false (by omega)
 have few:=H.out.few
 have hs:IntKind.i64.wrap ((L.length:Int)-(n:Int))=((L.length-n:Nat):Int):=by rw [IntWalk.i64_in _ (by have:=hle.2;omega)];have:=hle.2;omega
 have hs2:((L.length:Int)-(n:Int))=((L.length-n:Nat):Int):=by have:=hle.2;omega
 have h64:RowKit.wrap64 ((L.length-n:Nat):Int)=((L.length-n:Nat):Int):=by unfold RowKit.wrap64;omega
 have hu:IntKind.u64.wrap ((L.length-n:Nat):Int)=((L.length-n:Nat):Int):=IntWalk.u64_in _ (by omega)
 have he:decide (((L.length-n:Nat):Int)<(v:Int))=true:=decide_eq_true (by omega)
 have he2:decide (L.length-n<v)=true:=decide_eq_true (by omega)
 clear hn hle few
 go_enter Tryz.func83,Tryz.ntmps83
 go_wp2_with (first
  | (go_at_call 79;(with_reducible refine (kK H.out).mono ?_);rintro e w1 ⟨rfl,rfl⟩)
  | (go_at_call 80;(with_reducible refine (jP _).mono ?_);rintro e w1 ⟨rfl,rfl⟩)
  | (go_at_call 80;(with_reducible refine (kJ H.out _).mono ?_);rintro e w1 ⟨rfl,h1,h2⟩;have H1:=Lib.hid h1;have H2:=Lib.hid h2;clear h1 h2)
  | (go_at_call 127;(with_reducible refine (Jp H.out HN.out).mono ?_);rintro e w1 ⟨rfl,rfl⟩))
 go_ret
 exact ⟨_,(by decide),rfl,H1.out,H2.out⟩
theorem sX (h:At w b g L 0) {v n m:Nat} (hn:num 0 0 L=some (v,n)) (hb:m≤1000000) (hv:v≤m) (hs:v≤L.length-n):Calls Tryz.prog 83 #[.pointer (some ⟨b,0,none⟩),.int .i64 (m:Nat)] w (D2 w b g v ((L.drop n).take v) (L.drop (n+v))):=by
 have H:=Lib.hid h
 obtain ⟨p,c,h1,h2,_,_⟩:=id h.left
 clear h
 have hs0:=hs
 clear hs
 have HN:=Lib.hid hn
 have hle:=XX _ _ _ hn
 have hz:((n:Int)==0)=false:=by simp;have:=hle.1;omega
 have hm:decide ((m:Int)<0)=false:=decide_eq_false (by omega)
 have hw:IntKind.u64.wrap (m:Int)=(m:Int):=IntWalk.u64_in _ (by omega)
 have hd:decide ((m:Int)<(v:Int))=false:=decide_eq_false (by omega)
 have hd2:decide (m<v)=false:=decide_eq_false (by omega)
 have few:=H.out.few
 have hs:IntKind.i64.wrap ((L.length:Int)-(n:Int))=((L.length-n:Nat):Int):=by rw [IntWalk.i64_in _ (by have:=hle.2;omega)];have:=hle.2;omega
 have hs2:((L.length:Int)-(n:Int))=((L.length-n:Nat):Int):=by have:=hle.2;omega
 have h64:RowKit.wrap64 ((L.length-n:Nat):Int)=((L.length-n:Nat):Int):=by unfold RowKit.wrap64;omega
 have hu:IntKind.u64.wrap ((L.length-n:Nat):Int)=((L.length-n:Nat):Int):=IntWalk.u64_in _ (by omega)
 have he:decide (((L.length-n:Nat):Int)<(v:Int))=false:=decide_eq_false (by omega)
 have he2:decide (L.length-n<v)=false:=decide_eq_false (by omega)
 have hi:IntKind.i64.wrap (v:Int)=(v:Int):=IntWalk.i64_in _ (by omega)
 have HLE:RowKit.Hid (n≤L.length):=Lib.hid (by have:=hle.2;omega)
 have HV:RowKit.Hid (v≤(L.drop n).length):=Lib.hid (by rw [List.length_drop];exact hs0)
 clear hn hle few
 go_enter Tryz.func83,Tryz.ntmps83
 go_wp2_with (first
  | (go_at_call 79;(with_reducible refine (kK H.out).mono ?_);rintro e w1 ⟨rfl,rfl⟩)
  | (go_at_call 80;(with_reducible refine (jP _).mono ?_);rintro e w1 ⟨rfl,rfl⟩)
  | (go_at_call 127;(with_reducible refine (Jp H.out HN.out).mono ?_);rintro e w1 ⟨rfl,rfl⟩)
  | (go_at_call 84;(with_reducible refine (JD H.out HLE.out).mono ?_);rintro e w2 ⟨p',c',rfl,t1,t2,t3,t4,t5⟩;have T1:=Lib.hid t1;have T2:=Lib.hid t2;have T3:=Lib.hid t3;have T:=Lib.hid (And.intro t4 t5);clear t1 t2 t3 t4 t5)
  | (go_at_call 84;(with_reducible refine (JD T.out.1 HV.out).mono ?_);rintro e w3 ⟨p'',c'',rfl,t1,t2,t3,t4,t5⟩;have S1:=Lib.hid t1;have S2:=Lib.hid t2;have S3:=Lib.hid t3;have S:=Lib.hid (And.intro t4 t5);clear t1 t2 t3 t4 t5))
 go_ret
 exact ⟨p'',c'',rfl,(by rw [List.length_take];have:=HV.out;omega),S1.out,fun a ha=>Nat.le_trans T.out.2.size (S2.out a ha),S3.out,(List.drop_drop ▸ S.out.1:At w3 b g (L.drop (n+v)) 0),T.out.2.trans S.out.2⟩
theorem Kz {er:Int} (h:At w b g L er):Calls Tryz.prog 85 #[.pointer (some ⟨b,0,none⟩)] w fun e w2=>e = .returned (.int .i64 er)∧w=w2:=by
 have he:=h.err
 clear h
 go_enter Tryz.func85,Tryz.ntmps85
 go_wp2
 go_ret
 exact ⟨rfl,rfl⟩
theorem BG {er:Int} (h:At w b g L er) (hn:er≠0):Calls Tryz.prog 35 #[.pointer (some ⟨b,0,none⟩)] w fun e w2=>e = .returned (.int .i64 er)∧w=w2:=by
 have H:=Lib.hid h
 obtain ⟨p,c,h1,h2,_,_⟩:=id h.left
 clear h
 have HN:=Lib.hid hn
 clear hn
 go_enter Tryz.func35,Tryz.ntmps35
 go_wp2_with (first
  | (go_at_call 79;(with_reducible refine (ll H.out HN.out).mono ?_);rintro e w1 ⟨rfl,rfl⟩)
  | (go_at_call 85;(with_reducible refine (Kz H.out).mono ?_);rintro e w1 ⟨rfl,rfl⟩))
 go_ret
 exact ⟨rfl,rfl⟩
theorem sL (h:At w b g L 0) (hn:0<L.length):Calls Tryz.prog 35 #[.pointer (some ⟨b,0,none⟩)] w fun e w2=>e = .returned (.int .i64 6)∧w=w2:=by
 have H:=Lib.hid h
 obtain ⟨p,c,h1,h2,_,_⟩:=id h.left
 clear h
 have he:decide ((0:Int)<(L.length:Int))=true:=decide_eq_true (by omega)
 go_enter Tryz.func35,Tryz.ntmps35
 go_wp2_with (first
  | (go_at_call 79;(with_reducible refine (kK H.out).mono ?_);rintro e w1 ⟨rfl,rfl⟩)
  | (go_at_call 85;(with_reducible refine (Kz H.out).mono ?_);rintro e w1 ⟨rfl,rfl⟩))
 go_ret
 exact ⟨rfl,rfl⟩
theorem BF (h:At w b g L 0) (hn:L.length=0):Calls Tryz.prog 35 #[.pointer (some ⟨b,0,none⟩)] w fun e w2=>e = .returned (.int .i64 0)∧w=w2:=by
 have H:=Lib.hid h
 obtain ⟨p,c,h1,h2,_,_⟩:=id h.left
 clear h
 have he:decide ((0:Int)<(L.length:Int))=false:=decide_eq_false (by omega)
 go_enter Tryz.func35,Tryz.ntmps35
 go_wp2_with (first
  | (go_at_call 79;(with_reducible refine (kK H.out).mono ?_);rintro e w1 ⟨rfl,rfl⟩)
  | (go_at_call 85;(with_reducible refine (Kz H.out).mono ?_);rintro e w1 ⟨rfl,rfl⟩))
 go_ret
 exact ⟨rfl,rfl⟩
end
end RD
end
section
open Go Go.Proofs TR
namespace RD
def uintR (m:Nat) (L:List Nat):Option (Nat×List Nat):=match num 0 0 L with | none=>none | some (v,n)=>if v≤m then some (v,L.drop n) else none
def yP (m:Nat) (L:List Nat):Option (List Nat×List Nat):=match num 0 0 L with | none=>none | some (v,n)=>if v≤m∧v≤L.length-n then some ((L.drop n).take v,L.drop (n+v)) else none
def eh:List Nat→Option (Bool×List Nat) | []=>none | x::L=>if x≤1 then some (x==1,L) else none
def unzig (u:Nat):Int:=if u % 2=1 then -((u / 2:Nat):Int)-1 else ((u / 2:Nat):Int)
def Fp (L:List Nat):Option (Int×List Nat):=match num 0 0 L with | none=>none | some (u,n)=>some (unzig u,L.drop n)
theorem uintR_le {m v:Nat}{L L':List Nat} (h:uintR m L=some (v,L')):v≤m:=by
 unfold uintR at h
 split at h
 ·cases h
 ·split at h
  ·cases h;assumption
  ·cases h
section
variable {w:World}{b g:Nat}{L:List Nat}
theorem uint_bad (h:At w b g L 0) {m:Nat} (hb:m≤9000000000000000000) (hr:uintR m L=none):Calls Tryz.prog 81 #[.pointer (some ⟨b,0,none⟩),.int .u64 (m:Nat)] w (J2 w b g L (.int .u64 0)):=by
 unfold uintR at hr
 split at hr
 ·rename_i hn;exact uint_none h hn hb
 ·rename_i v n hn
  split at hr
  ·cases hr
  ·exact uint_big h hn hb (by omega)
theorem uint_good (h:At w b g L 0) {m v:Nat}{L':List Nat} (hb:m≤9000000000000000000) (hr:uintR m L=some (v,L')):Calls Tryz.prog 81 #[.pointer (some ⟨b,0,none⟩),.int .u64 (m:Nat)] w (OkP w b g L' (.int .u64 (v:Nat))):=by
 unfold uintR at hr
 split at hr
 ·cases hr
 ·rename_i v n hn
  split at hr
  ·cases hr;exact uint_ok h hn hb (by assumption)
  ·cases hr
theorem od (h:At w b g L 0) {m:Nat} (hb:m≤1000000) (hr:yP m L=none):Calls Tryz.prog 83 #[.pointer (some ⟨b,0,none⟩),.int .i64 (m:Nat)] w (J2 w b g L (.slice none 0 0)):=by
 unfold yP at hr
 split at hr
 ·rename_i hn;exact gY h hn m
 ·rename_i v n hn
  split at hr
  ·cases hr
  ·rename_i hc
   by_cases hv:v≤m
   ·exact eB h hn hb hv (by omega)
   ·exact oc h hn hb (by omega)
theorem gZ (h:At w b g L 0) {m:Nat}{M L':List Nat} (hb:m≤1000000) (hr:yP m L=some (M,L')):Calls Tryz.prog 83 #[.pointer (some ⟨b,0,none⟩),.int .i64 (m:Nat)] w (D2 w b g M.length M L'):=by
 unfold yP at hr
 split at hr
 ·cases hr
 ·rename_i v n hn
  split at hr
  ·rename_i hc
   cases hr
   have hl:((L.drop n).take v).length=v:=by rw [List.length_take,List.length_drop];omega
   rw [hl]
   exact sX h hn hb hc.1 hc.2
  ·cases hr
theorem uf {er:Int} (h:At w b g L er) (hn:er≠0) (m:Nat):Calls Tryz.prog 30 #[.pointer (some ⟨b,0,none⟩),.int .i64 (m:Nat)] w (J2 w b g L (.int .i64 0)):=by
 have H:=Lib.hid h
 obtain ⟨p,c,h1,h2,_,_⟩:=id h.left
 clear h
 have HN:=Lib.hid hn
 clear hn
 go_enter Tryz.func30,Tryz.ntmps30
 go_wp2_with (first
  | (go_at_call 79;(with_reducible refine (ll H.out HN.out).mono ?_);rintro e w1 ⟨rfl,rfl⟩))
 go_ret
 exact ⟨er,HN.out,rfl,H.out,qe.refl _ _⟩
theorem ra (h:At w b g L 0) {m:Nat} (hb:m≤9000000000000000000) (hr:uintR m L=none):Calls Tryz.prog 30 #[.pointer (some ⟨b,0,none⟩),.int .i64 (m:Nat)] w (J2 w b g L (.int .i64 0)):=by
 have H:=Lib.hid h
 obtain ⟨p,c,h1,h2,_,_⟩:=id h.left
 clear h
 have HN:=Lib.hid hr
 have HB:=Lib.hid hb
 have hm:decide ((m:Int)<0)=false:=decide_eq_false (by omega)
 have hw:IntKind.u64.wrap (m:Int)=(m:Int):=IntWalk.u64_in _ (by omega)
 clear hr hb
 go_enter Tryz.func30,Tryz.ntmps30
 go_wp2_with (first
  | (go_at_call 79;(with_reducible refine (kK H.out).mono ?_);rintro e w1 ⟨rfl,rfl⟩)
  | (go_at_call 80;(with_reducible refine (jP _).mono ?_);rintro e w1 ⟨rfl,rfl⟩)
  | (go_at_call 81;(with_reducible refine (uint_bad H.out HB.out HN.out).mono ?_);rintro e w1 ⟨er,h0,rfl,h1,h2⟩;have H0:=Lib.hid h0;have H1:=Lib.hid h1;have H2:=Lib.hid h2;clear h0 h1 h2))
 go_ret
 exact ⟨er,H0.out,rfl,H1.out,H2.out⟩
theorem ni (h:At w b g L 0) {m v:Nat}{L':List Nat} (hb:m≤9000000000000000000) (hr:uintR m L=some (v,L')):Calls Tryz.prog 30 #[.pointer (some ⟨b,0,none⟩),.int .i64 (m:Nat)] w (OkP w b g L' (.int .i64 (v:Nat))):=by
 have H:=Lib.hid h
 obtain ⟨p,c,h1,h2,_,_⟩:=id h.left
 clear h
 have HN:=Lib.hid hr
 have HB:=Lib.hid hb
 have hm:decide ((m:Int)<0)=false:=decide_eq_false (by omega)
 have hw:IntKind.u64.wrap (m:Int)=(m:Int):=IntWalk.u64_in _ (by omega)
 have hv:=uintR_le hr
 have hi:IntKind.i64.wrap (v:Int)=(v:Int):=IntWalk.i64_in _ (by omega)
 clear hr hb hv
 go_enter Tryz.func30,Tryz.ntmps30
 go_wp2_with (first
  | (go_at_call 79;(with_reducible refine (kK H.out).mono ?_);rintro e w1 ⟨rfl,rfl⟩)
  | (go_at_call 80;(with_reducible refine (jP _).mono ?_);rintro e w1 ⟨rfl,rfl⟩)
  | (go_at_call 81;(with_reducible refine (uint_good H.out HB.out HN.out).mono ?_);rintro e w1 ⟨rfl,h1,h2⟩;have H1:=Lib.hid h1;have H2:=Lib.hid h2;clear h1 h2))
 go_ret
 exact ⟨rfl,H1.out,H2.out⟩
end
end RD
end
section
open Go Go.Proofs TR
namespace RD
theorem u5:Tryz.prog.underlying 5=some (.int .u8):=by kernel_rfl
theorem u9:Tryz.prog.underlying 9=some .string:=by kernel_rfl
theorem KJ (w:World) (p:Option Addr) (c:Nat):(convert 22 9 (.slice p 0 c)).run Tryz.prog w = .ok (.string (str [])) w:=by
 rw [run_convert_bytes_string w 22 9 5 p 0 c under51 u5 u9]
 cases p<;>simp [Conv.bytesToString,str]<;>rfl
theorem eo {w:World}{p:Option Addr}{M:List Nat}{n:Nat} (c:Nat) (h:In w p M) (hn:M.length=n):(convert 22 9 (.slice p n c)).run Tryz.prog w = .ok (.string (str M)) w:=by
 subst hn
 by_cases hM:M=[]
 ·subst hM
  exact KJ w p c
 ·obtain ⟨b,o,rfl,hc⟩:=h.2 hM
  have:=run_convert_bytes_back (P:=Tryz.prog) w 22 9 5 ⟨b,o,none⟩ c (M.map UInt8.ofNat) under51 u5 u9 (fun j hj=>by
   rw [Addr.add_lit]
   have hj':j<M.length:=by simpa using hj
   rw [hc j M[j] (List.getElem?_eq_getElem hj'),List.getElem_map,UInt8.toNat_ofNat',Nat.mod_eq_of_lt (h.1 _ (List.getElem_mem hj'))])
  rw [List.length_map]at this
  exact this
section
variable {w:World}{b g:Nat}{L:List Nat}
theorem mP {er:Int} (h:At w b g L er) (hn:er≠0) (m:Nat):Calls Tryz.prog 33 #[.pointer (some ⟨b,0,none⟩),.int .i64 (m:Nat)] w (J2 w b g L (.string (str []))):=by
 have H:=Lib.hid h
 obtain ⟨p,c,h1,h2,_,_⟩:=id h.left
 clear h
 have HN:=Lib.hid hn
 clear hn
 go_enter Tryz.func33,Tryz.ntmps33
 go_wp2_with (first
  | (go_at_call 83;(with_reducible refine (sY H.out HN.out _).mono ?_);rintro e w1 ⟨er,h0,rfl,k1,k2⟩;have hcv:=KJ w1 none 0;have H0:=Lib.hid h0;have H1:=Lib.hid k1;have H2:=Lib.hid k2;clear h0 k1 k2))
 go_ret
 exact ⟨er,H0.out,rfl,H1.out,H2.out⟩
theorem fp (h:At w b g L 0) {m:Nat} (hb:m≤1000000) (hr:yP m L=none):Calls Tryz.prog 33 #[.pointer (some ⟨b,0,none⟩),.int .i64 (m:Nat)] w (J2 w b g L (.string (str []))):=by
 have H:=Lib.hid h
 obtain ⟨p,c,h1,h2,_,_⟩:=id h.left
 clear h
 have HN:=Lib.hid hr
 have HB:=Lib.hid hb
 clear hr hb
 go_enter Tryz.func33,Tryz.ntmps33
 go_wp2_with (first
  | (go_at_call 83;(with_reducible refine (od H.out HB.out HN.out).mono ?_);rintro e w1 ⟨er,h0,rfl,k1,k2⟩;have hcv:=KJ w1 none 0;have H0:=Lib.hid h0;have H1:=Lib.hid k1;have H2:=Lib.hid k2;clear h0 k1 k2))
 go_ret
 exact ⟨er,H0.out,rfl,H1.out,H2.out⟩
theorem cM (h:At w b g L 0) {m:Nat}{M L':List Nat} (hb:m≤1000000) (hr:yP m L=some (M,L')):Calls Tryz.prog 33 #[.pointer (some ⟨b,0,none⟩),.int .i64 (m:Nat)] w (OkP w b g L' (.string (str M))):=by
 have H:=Lib.hid h
 obtain ⟨p,c,h1,h2,_,_⟩:=id h.left
 clear h
 have HN:=Lib.hid hr
 have HB:=Lib.hid hb
 clear hr hb
 go_enter Tryz.func33,Tryz.ntmps33
 go_wp2_with (first
  | (go_at_call 83;(with_reducible refine (gZ H.out HB.out HN.out).mono ?_);rintro e w1 ⟨p',c',rfl,k0,k1,k2,k3,k4,k5⟩;have hcv:=eo c' k1 k0;have K:=Lib.hid (And.intro k4 k5);clear k0 k1 k2 k3 k4 k5))
 go_ret
 exact ⟨rfl,K.out.1,K.out.2⟩
theorem uV {er:Int} (h:At w b g L er) (hn:er≠0):Calls Tryz.prog 34 #[.pointer (some ⟨b,0,none⟩)] w (J2 w b g L (.bool false)):=by
 have H:=Lib.hid h
 obtain ⟨p,c,h1,h2,_,_⟩:=id h.left
 clear h
 have HN:=Lib.hid hn
 clear hn
 go_enter Tryz.func34,Tryz.ntmps34
 go_wp2_with (first
  | (go_at_call 79;(with_reducible refine (ll H.out HN.out).mono ?_);rintro e w1 ⟨rfl,rfl⟩))
 go_ret
 exact ⟨er,HN.out,rfl,H.out,qe.refl _ _⟩
theorem gB (h:At w b g [] 0):Calls Tryz.prog 34 #[.pointer (some ⟨b,0,none⟩)] w (J2 w b g [] (.bool false)):=by
 have H:=Lib.hid h
 obtain ⟨p,c,h1,h2,_,_⟩:=id h.left
 have h1:w.cell? ⟨b,0,none⟩=some (.slice p 0 c):=h1
 clear h
 go_enter Tryz.func34,Tryz.ntmps34
 go_wp2_with (first
  | (go_at_call 79;(with_reducible refine (kK H.out).mono ?_);rintro e w1 ⟨rfl,rfl⟩)
  | (go_at_call 80;(with_reducible refine (kJ H.out _).mono ?_);rintro e w1 ⟨rfl,h1,h2⟩;have H1:=Lib.hid h1;have H2:=Lib.hid h2;clear h1 h2))
 go_ret
 exact ⟨_,(by decide),rfl,H1.out,H2.out⟩
theorem front {x:Nat}{L':List Nat} (h:At w b g (x::L') 0):∃ g o c,w.cell? ⟨b,0,none⟩=some (.slice (some ⟨g,o,none⟩) (L'.length+1) c)∧w.cell? ⟨g,o,none⟩=some (.int .u8 (x:Nat))∧x<256∧(L'.length:Int)+1≤(c:Int):=by
 obtain ⟨p,c,h1,h2,h3,h4⟩:=h.left
 obtain ⟨g,o,rfl,hc⟩:=h3.2 (by simp)
 exact ⟨g,o,c,h1,hc 0 x rfl,h3.1 x List.mem_cons_self,by have:L'.length+1≤c:=h2;omega⟩
theorem sH {x:Nat}{L':List Nat} (h:At w b g (x::L') 0) (hx:1<x):Calls Tryz.prog 34 #[.pointer (some ⟨b,0,none⟩)] w (J2 w b g (x::L') (.bool false)):=by
 have H:=Lib.hid h
 obtain ⟨g,o,c,h1,h2,h3,h4⟩:=front h
 have hd:decide ((1:Int)<(x:Int))=true:=decide_eq_true (by omega)
 have hz:(((L'.length:Int)+1)==0)=false:=by simp;omega
 clear h
 go_enter Tryz.func34,Tryz.ntmps34
 go_wp2_with (first
  | (go_at_call 79;(with_reducible refine (kK H.out).mono ?_);rintro e w1 ⟨rfl,rfl⟩)
  | (go_at_call 80;(with_reducible refine (kJ H.out _).mono ?_);rintro e w1 ⟨rfl,h1,h2⟩;have H1:=Lib.hid h1;have H2:=Lib.hid h2;clear h1 h2))
 go_ret
 exact ⟨_,(by decide),rfl,H1.out,H2.out⟩
theorem Cp {x:Nat}{L':List Nat} (h:At w b g (x::L') 0):Calls Tryz.prog 84 #[.pointer (some ⟨b,0,none⟩),.int .i64 1] w (wF w b g (x::L') 0 1):=JD (n:=1) h (by simp)
theorem nR {x:Nat}{L':List Nat} (h:At w b g (x::L') 0) (hx:x≤1):Calls Tryz.prog 34 #[.pointer (some ⟨b,0,none⟩)] w (OkP w b g L' (.bool ((x:Int)==1))):=by
 have H:=Lib.hid h
 obtain ⟨g,o,c,h1,h2,h3,h4⟩:=front h
 have hd:decide ((1:Int)<(x:Int))=false:=decide_eq_false (by omega)
 have hz:(((L'.length:Int)+1)==0)=false:=by simp;omega
 clear h
 go_enter Tryz.func34,Tryz.ntmps34
 go_wp2_with (first
  | (go_at_call 79;(with_reducible refine (kK H.out).mono ?_);rintro e w1 ⟨rfl,rfl⟩)
  | (go_at_call 80;(with_reducible refine (jP _).mono ?_);rintro e w1 ⟨rfl,rfl⟩)
  | (go_at_call 84;(with_reducible refine (Cp H.out).mono ?_);rintro e w2 ⟨p',c',rfl,t1,t2,t3,t4,t5⟩;obtain ⟨g',o',rfl,q0⟩:=t1.2 (by simp);have hq:w2.cell? ⟨g',o',none⟩=some (.int .u8 (x:Nat)):=q0 0 x rfl;clear q0;have T:=Lib.hid (And.intro t4 t5);clear t1 t2 t3 t4 t5))
 go_ret
 exact ⟨rfl,T.out.1,T.out.2⟩
end
end RD
end
section
open Go Go.Proofs
section
noncomputable section
def useT:List (List Nat):=[[5],[6],[6],[6],[2,3],[2,3],[2,8],[2,8],[1,2,5],[1,2],[7],[7],[0,1,2,5],[0,1,2],[1],[4],[4,2],[4,2],[5]]
def useB (k i:Nat):Bool:=(useT.getD k []).any fun x=>Nat.beq x i
def useA (k:Nat):zd:=.agg [.bool (useB k 0),.bool (useB k 1),.bool (useB k 2),.bool (useB k 3),.bool (useB k 4),.bool (useB k 5),.bool (useB k 6),.bool (useB k 7),.bool (useB k 8)]
def EU:Env:=Kd Tryz.prog [] [] []
def gQ (k:Nat):Bool:=zt (kB EU (Wg EU 1000) 31 [.int .u8 (.ofNat k)] (kH EU 300)) false fun p=>qs p.1 (useA k)
def DE:Bool:=List.rec true (fun k _ ih=>ifB (gQ k) ih false) (List.range 19)
theorem uses_run:DE=true:=by kernel_rfl
end
theorem YR:dA Tryz.prog=true:=by kernel_rfl
theorem bm:Tryz.prog.follows .mixedOrders=true:=by kernel_rfl
@[reducible] def unkU:Unk:={ val:=fun _=>.int .u8 0,plain:=fun _=>rfl,place:=fun g=>(g,0,0),glob:=fun _ _=>rfl }
theorem uses_all:∀ (l:List Nat),(List.rec true (fun k _ ih=>ifB (gQ k) ih false) l:Bool)=true→∀ k∈l,gQ k=true
 | [],_,k,m=>by cases m
 | a::l,h,k,m=>by
  have h:ifB (gQ a) (List.rec true (fun k _ ih=>ifB (gQ k) ih false) l) false=true:=h
  rw [zu]at h
  split at h
  ·rename_i ha
   rcases List.mem_cons.1 m with rfl | m
   ·exact ha
   ·exact uses_all l h k m
  ·cases h
theorem uses_ok {k:Nat} (hk:k<19):gQ k=true:=uses_all _ uses_run k (List.mem_range.2 hk)
theorem uses31_call {w:World}{k:Nat} (hk:k<19):Calls Tryz.prog 31 #[.int .u8 (k:Nat)] w fun e w2=>e = .returned (.agg #[.bool (useB k 0),.bool (useB k 1),.bool (useB k 2),.bool (useB k 3),.bool (useB k 4),.bool (useB k 5),.bool (useB k 6),.bool (useB k 7),.bool (useB k 8)])∧Grown w w2:=by
 letI:=unkU
 have h:=uses_ok hk
 unfold gQ at h
 cases hr:kB EU (Wg EU 1000) 31 [.int .u8 (.ofNat k)] (kH EU 300) with
 | none=>rw [hr]at h;cases h
 | some p=>
  rw [hr,zg]at h
  have hv:=zX _ _ h
  have hF:Fit EU:=bD YR bm (fun p hp=>by cases hp)
  have:=ya (E:=EU) (N:=300) hF (by decide) (VT (val:=fun _=>.int .u8 0)) (fun f hf=>by cases hf) rfl (r:=p.1) (H':=p.2) hr ⟨trivial,trivial⟩ (w:=w) VN
  refine Calls.mono (show Calls Tryz.prog 31 #[.int .u8 (k:Nat)] w _ from this) fun e w2 hx=>?_
  obtain ⟨hg,γ,rfl,_⟩:=hx
  rw [hv]
  exact ⟨rfl,hg⟩
end
end
end Go.AEv
namespace Go.AuditPlain
def hi (v:Nat):List Nat:=if _h:v=0 then [] else hi (v / 128)++[v % 128+128]
termination_by v
decreasing_by exact Nat.div_lt_self (Nat.pos_of_ne_zero _h) (by decide)
def put (v:Nat):List Nat:=hi (v / 128)++[v % 128]
def dec (acc:Nat):List Nat→Option (Nat×List Nat)
 | []=>none
 | x::l=>if x<128 then some (acc*128+x,l) else dec (acc*128+(x-128)) l
theorem BI:∀ (v:Nat) (l:List Nat),dec 0 (hi v++l)=dec v l:=by
 intro v
 induction v using Nat.strongRecOn with
 | ind v ih=>
  intro l
  rw [hi]
  split
  ·rename_i h;subst h;rfl
  ·rename_i h
   rw [List.append_assoc,ih (v / 128) (Nat.div_lt_self (Nat.pos_of_ne_zero h) (by decide))]
   show (if v % 128+128<128 then _ else dec (v / 128*128+(v % 128+128-128)) l)=_
   rw [if_neg (by omega),show v / 128*128+(v % 128+128-128)=v from by omega]
theorem lV (v:Nat) (l:List Nat):dec 0 (put v++l)=some (v,l):=by
 unfold put
 rw [List.append_assoc,BI]
 show (if v % 128<128 then some (v / 128*128+v % 128,l) else _)=_
 rw [if_pos (Nat.mod_lt _ (by decide)),show v / 128*128+v % 128=v from by omega]
theorem yZ {a b:Nat}{s t:List Nat} (h:put a++s=put b++t):a=b∧s=t:=by
 have h1:=lV a s
 rw [h,lV]at h1
 cases h1
 exact ⟨rfl,rfl⟩
def zig (v:Int):Nat:=if 0≤v then 2*v.toNat else 2*(-(v+1)).toNat+1
def aW (v:Int):List Nat:=put (zig v)
def zw (p:List Nat):List Nat:=put p.length++p
theorem kX {p q s t:List Nat} (h:zw p++s=zw q++t):p=q∧s=t:=by
 unfold zw at h
 rw [List.append_assoc,List.append_assoc]at h
 obtain ⟨h1,h2⟩:=yZ h
 exact List.append_inj h2 h1
def qg (b:Bool):List Nat:=if b then [1] else [0]
theorem Ww {a b:Bool}{s t:List Nat} (h:qg a++s=qg b++t):a=b∧s=t:=by
 cases a<;>cases b<;>simp [qg]at h ⊢<;>exact h
def j5 (l:List Nat):List Nat:=l.flatMap put
def numbers (l:List Nat):List Nat:=put l.length++j5 l
structure Rec where
 number:Nat
 version:Nat
 tenant:List Nat
 session:Int
 action:List Nat
 path:List Nat
 day:Nat
 granted:Bool
 user:Nat
 up:List Nat
 down:List Nat
 does:List Nat
 at_:List Nat
 deep:Bool
def Rec.bytes (r:Rec):List Nat:=
 put r.number++(put r.version++(zw r.tenant++(aW r.session++(zw r.action++(zw r.path++(put r.day++(qg r.granted ++
  (put r.user++(numbers r.up++(numbers r.down++(zw r.does++(zw r.at_++qg r.deep))))))))))))
theorem JU {v:Nat} (h:v≠0):hi v=hi (v / 128)++[v % 128+128]:=by
 rw [hi,dif_neg h]
theorem kG:hi 0=[]:=by rw [hi,dif_pos rfl]
theorem aV {v w:Nat}{l:List Nat} (h:v<128) (e:put w=hi (v / 128)++l):put w=l:=by
 rw [e,show v / 128=0 by omega,kG,List.nil_append]
end Go.AuditPlain
namespace Go.AEv
section
open Go.AuditPlain (hi put aW zw qg j5 numbers zig)
namespace RD
theorem kG:hi 0=[]:=by rw [hi];simp
theorem Vr {u:Nat} (h:u≠0):hi u=hi (u / 128)++[u % 128+128]:=by rw [hi];simp [h]
theorem rb {v k x:Nat}{l:List Nat} (h1:¬ (k=0∧x=128)) (h2:v≤144115188075855871) (h3:¬ x<128):num v k (x::l)=num (v*128+x % 128) (k+1) l:=by
 rw [num.eq_2,if_neg (by omega),if_neg h3]
theorem re {v k x:Nat}{l:List Nat} (h1:¬ (k=0∧x=128)) (h2:v≤144115188075855871) (h3:x<128):num v k (x::l)=some (v*128+x % 128,k+1):=by
 rw [num.eq_2,if_neg (by omega),if_pos h3]
theorem X6 {u:Nat} (h:(hi u).length=0):u=0:=by
 by_cases hu:u=0
 ·exact hu
 ·rw [Vr hu]at h;simp at h
theorem xJ:∀ (u:Nat) (l:List Nat),u≤144115188075855871→num 0 0 (hi u++l)=num u (hi u).length l:=by
 intro u
 induction u using Nat.strongRecOn with
 | ind u ih=>
  intro l hu
  by_cases h:u=0
  ·subst h
   rw [kG]
   rfl
  ·have e:(hi u).length=(hi (u / 128)).length+1:=by rw [Vr h,List.length_append];rfl
   rw [e,Vr h,List.append_assoc,ih (u / 128) (Nat.div_lt_self (Nat.pos_of_ne_zero h) (by decide)) _ (by omega)]
   show num (u / 128) (hi (u / 128)).length ((u % 128+128)::l)=_
   rw [rb (fun hh=>?_) (by omega) (by omega)]
   ·congr 1
    omega
   ·have:=X6 hh.1
    omega
theorem lq {v:Nat} (hv:v<18446744073709551616) (l:List Nat):num 0 0 (put v++l)=some (v,(put v).length):=by
 unfold put
 rw [List.append_assoc,xJ _ _ (by omega)]
 show num (v / 128) (hi (v / 128)).length (v % 128::l)=_
 rw [re (by omega) (by omega) (by omega),List.length_append]
 congr 2
 omega
theorem uint_put {v m:Nat} (hv:v≤m) (hm:m<18446744073709551616) (l:List Nat):uintR m (put v++l)=some (v,l):=by
 unfold uintR
 rw [lq (by omega)]
 simp [hv]
theorem n9 {s:List Nat}{m:Nat} (hs:s.length≤m) (hm:m≤1000000) (l:List Nat):yP m (zw s++l)=some (s,l):=by
 unfold yP zw
 rw [List.append_assoc,lq (by omega)]
 simp only [List.length_append]
 rw [if_pos ⟨hs,by omega⟩,List.drop_left,List.take_left]
 congr 2
 rw [← List.append_assoc,List.drop_append_of_le_length (by simp)]
 rw [List.drop_of_length_le (by simp)]
 rfl
theorem sF (b:Bool) (l:List Nat):eh (qg b++l)=some (b,l):=by cases b<;>rfl
end RD
end
section
open Go Go.Proofs TR
open Go.AuditPlain (hi put aW zw qg numbers zig)
namespace RP
open RD (num uintR yP eh Fp unzig)
theorem lr:∀ (l:List Nat) (v k:Nat) {x n:Nat},(∀ y∈l,y<256)→(k=0∧v=0∨0<k∧0<v)→num v k l=some (x,n)→hi v++l.take (n-k)=put x∧k<n
 | [],_,_,_,_,_,_,h=>by cases h
 | b::l,v,k,x,n,hl,hv,h=>by
  have hb:b<256:=hl b List.mem_cons_self
  unfold num at h
  split at h
  ·cases h
  ·rename_i h0
   split at h
   ·rename_i h1
    cases h
    refine ⟨?_,by omega⟩
    rw [show k+1-k=1 by omega]
    show hi v++[b]=put _
    unfold put
    have e:b % 128=b:=Nat.mod_eq_of_lt h1
    rw [e,show (v*128+b) / 128=v by omega,show (v*128+b) % 128=b by omega]
   ·rename_i h1
    have hv':0<v*128+b % 128:=by
     rcases hv with ⟨rfl,rfl⟩ | ⟨_,hv⟩
     ·have:b≠128:=fun e=>h0 (.inl ⟨rfl,e⟩)
      omega
     ·omega
    obtain ⟨h2,h3⟩:=lr l (v*128+b % 128) (k+1) (fun y hy=>hl y (List.mem_cons_of_mem _ hy)) (.inr ⟨by omega,hv'⟩) h
    refine ⟨?_,by omega⟩
    have e1:hi (v*128+b % 128)=hi v++[b]:=by
     rw [RD.Vr (by omega),show (v*128+b % 128) / 128=v by omega,show (v*128+b % 128) % 128+128=b by omega]
    rw [← h2,e1,show n-k=(n-(k+1))+1 by omega,List.take_succ_cons,List.append_assoc]
    rfl
theorem WC {l:List Nat}{x n:Nat} (hl:∀ y∈l,y<256) (h:num 0 0 l=some (x,n)):l=put x++l.drop n:=by
 obtain ⟨h1,_⟩:=lr l 0 0 hl (.inl ⟨rfl,rfl⟩) h
 rw [RD.kG,List.nil_append,Nat.sub_zero]at h1
 rw [← h1,List.take_append_drop]
theorem uint_can {m v:Nat}{L L':List Nat} (hl:∀ y∈L,y<256) (h:uintR m L=some (v,L')):L=put v++L'∧v≤m:=by
 unfold uintR at h
 split at h
 ·cases h
 ·rename_i v' n hn
  split at h
  ·rename_i hm
   cases h
   exact ⟨WC hl hn,hm⟩
  ·cases h
theorem oa {m:Nat}{L M L':List Nat} (hl:∀ y∈L,y<256) (h:yP m L=some (M,L')):L=zw M++L'∧M.length≤m:=by
 unfold yP at h
 split at h
 ·cases h
 ·rename_i v n hn
  split at h
  ·rename_i hm
   cases h
   have h1:=WC hl hn
   have h2:((L.drop n).take v).length=v:=by rw [List.length_take,List.length_drop];omega
   refine ⟨?_,by rw [h2];exact hm.1⟩
   unfold zw
   rw [h2,List.append_assoc,← List.drop_drop,List.take_append_drop]
   exact h1
  ·cases h
theorem sG {b:Bool}{L L':List Nat} (h:eh L=some (b,L')):L=qg b++L':=by
 cases L with
 | nil=>cases h
 | cons x L=>
  have h:(if x≤1 then some (x==1,L) else none)=some (b,L'):=h
  by_cases hx:x≤1
  ·rw [if_pos hx]at h
   cases h
   have:x=0∨x=1:=by omega
   rcases this with rfl | rfl<;>rfl
  ·rw [if_neg hx]at h
   cases h
end RP
end
section
open Go Go.Proofs TR
open Go.AuditPlain (hi put aW zw qg numbers zig)
namespace RD
theorem nS {b g:Nat}{L L':List Nat}{w:World} (h:At w b g L 0) {v:Bool} (hr:eh L=some (v,L')):Calls Tryz.prog 34 #[.pointer (some ⟨b,0,none⟩)] w (OkP w b g L' (.bool v)):=by
 cases L with
 | nil=>cases hr
 | cons y L=>
  have hr:(if y≤1 then some (y==1,L) else none)=some (v,L'):=hr
  split at hr
  ·rename_i hy
   cases hr
   have:=nR h hy
   have e:((y:Int)==1)=(y==1):=by
    rw [Bool.eq_iff_iff,beq_iff_eq,beq_iff_eq]
    omega
   rwa [e]at this
  ·cases hr
abbrev S:=List Nat×Bool
def stU (m:Nat) (s:S):Nat×S:=if s.2 then (match uintR m s.1 with | some (v,L)=>(v,L,true) | none=>(0,s.1,false)) else (0,s.1,false)
def stB (m:Nat) (s:S):List Nat×S:=if s.2 then (match yP m s.1 with | some (v,L)=>(v,L,true) | none=>([],s.1,false)) else ([],s.1,false)
def stF (s:S):Bool×S:=if s.2 then (match eh s.1 with | some (v,L)=>(v,L,true) | none=>(false,s.1,false)) else (false,s.1,false)
def AtU (w:World) (b g:Nat) (s:S):Prop:=∃ er:Int,(er=0↔s.2=true)∧At w b g s.1 er
def UP (w:World) (b g:Nat) (s:S) (v:Value) (e:Ending) (w2:World):Prop:=e = .returned v∧AtU w2 b g s∧qe b w w2
section
variable {w:World}{b g:Nat}{s s':S}
theorem AtU.yes (h:AtU w b g s) (hs:s.2=true):At w b g s.1 0:=by
 obtain ⟨er,h1,h2⟩:=h
 obtain rfl:=h1.2 hs
 exact h2
theorem AtU.no (h:AtU w b g s) (hs:s.2=false):∃ er:Int,er≠0∧At w b g s.1 er:=by
 obtain ⟨er,h1,h2⟩:=h
 exact ⟨er,(fun e=>by rw [h1.1 e]at hs;cases hs),h2⟩
theorem up_ok {L:List Nat}{v:Value}{e:Ending}{w2:World} (h:OkP w b g L v e w2):UP w b g (L,true) v e w2:=⟨h.1,⟨0,⟨fun _=>rfl,fun _=>rfl⟩,h.2.1⟩,h.2.2⟩
theorem up_bad {L:List Nat}{v:Value}{e:Ending}{w2:World} (h:J2 w b g L v e w2):UP w b g (L,false) v e w2:=by
 obtain ⟨er,h1,h2,h3,h4⟩:=h
 exact ⟨h2,⟨er,⟨fun e=>absurd e h1,(fun e=>by cases e)⟩,h3⟩,h4⟩
theorem xI (h:AtU w b g s) {m v:Nat} (hb:m≤9000000000000000000) (hr:stU m s=(v,s')):Calls Tryz.prog 30 #[.pointer (some ⟨b,0,none⟩),.int .i64 (m:Nat)] w (UP w b g s' (.int .i64 (v:Nat))):=by
 obtain ⟨L,ok⟩:=s
 unfold stU at hr
 cases ok with
 | true=>
  have ha:=h.yes rfl
  simp only [if_true]at hr
  split at hr
  ·rename_i v1 L1 hu
   cases hr
   exact (ni ha hb hu).mono fun _ _ k=>up_ok k
  ·rename_i hu
   cases hr
   exact (ra ha hb hu).mono fun _ _ k=>up_bad k
 | false=>
  cases hr
  obtain ⟨er,hn,ha⟩:=h.no rfl
  exact (uf ha hn m).mono fun _ _ k=>up_bad k
theorem Cq (h:AtU w b g s) {m:Nat}{v:List Nat} (hb:m≤1000000) (hr:stB m s=(v,s')):Calls Tryz.prog 33 #[.pointer (some ⟨b,0,none⟩),.int .i64 (m:Nat)] w (UP w b g s' (.string (str v))):=by
 obtain ⟨L,ok⟩:=s
 unfold stB at hr
 cases ok with
 | true=>
  have ha:=h.yes rfl
  simp only [if_true]at hr
  split at hr
  ·rename_i v1 L1 hu
   cases hr
   exact (cM ha hb hu).mono fun _ _ k=>up_ok k
  ·rename_i hu
   cases hr
   exact (fp ha hb hu).mono fun _ _ k=>up_bad k
 | false=>
  cases hr
  obtain ⟨er,hn,ha⟩:=h.no rfl
  exact (mP ha hn m).mono fun _ _ k=>up_bad k
theorem Bw (h:AtU w b g s) {v:Bool} (hr:stF s=(v,s')):Calls Tryz.prog 34 #[.pointer (some ⟨b,0,none⟩)] w (UP w b g s' (.bool v)):=by
 obtain ⟨L,ok⟩:=s
 unfold stF at hr
 cases ok with
 | true=>
  have ha:=h.yes rfl
  simp only [if_true]at hr
  split at hr
  ·rename_i v1 L1 hu
   cases hr
   exact (nS ha hu).mono fun _ _ k=>up_ok k
  ·rename_i hu
   cases hr
   cases L with
   | nil=>exact (gB ha).mono fun _ _ k=>up_bad k
   | cons y L=>
    have hy:1<y:=by
     have hu:(if y≤1 then some (y==1,L) else none)=none:=hu
     by_cases hy:y≤1
     ·rw [if_pos hy]at hu;cases hu
     ·omega
    exact (sH ha hy).mono fun _ _ k=>up_bad k
 | false=>
  cases hr
  obtain ⟨er,hn,ha⟩:=h.no rfl
  exact (uV ha hn).mono fun _ _ k=>up_bad k
end
end RD
end
section
open Go Go.Proofs
namespace MK
noncomputable section
def specs:List (FuncId×Spec):=[(236,.insert),(222,.insert),(214,.insert),(287,.mapsClone),(413,.indexByte),(434,.makeNoZero 5),(183,.same),(393,.count),(16,.fact),(5,.fact)]
def vF:List Nat:=[0,1,56,2,57,49,28,3,61,58,42,50,38,29,17,4,62,47,59,36,45,43,51,22,53,39,33,30,24,18,12,5,63,55,48,27,60,41,37,16,46,35,44,21,52,32,23,11,54,26,40,15,34,20,31,10,25,14,19,9,13,8,7,6]
def lj:List Nat:=[1,10,100,1000,10000,100000,1000000,10000000,100000000,1000000000,10000000000,100000000000,1000000000000,10000000000000,100000000000000,1000000000000000,10000000000000000,100000000000000000,1000000000000000000,10000000000000000000]
def zW:List (Nat×zJ):=[(0,.cells 289 64 (Tr.ofList (vF.map fun n=>.int .u8 (Int.ofNat n)))),(1,.cells 377 20 (Tr.ofList (lj.map fun n=>.int .u64 (Int.ofNat n))))]
def YI:List (Nat×zJ):=[
 (300,.cells 177 2 (.node (.node .nil (some (.nilmap)) .nil) (some (.nilslice)) .nil)),
 (301,.cells 177 2 (.node (.node .nil (some (.nilmap)) .nil) (some (.nilslice)) .nil)),
 (302,.cells 147 0 (.nil)),
 (303,.cells 235 5 (.node (.node (.node .nil (some (.slice 435 0 64 64 true)) .nil) (some (.slice 302 0 0 0 true)) .nil) (some (.int .i64 (.ofNat 64))) (.node (.node .nil (some (.slice 432 0 64 64 false)) .nil) (some (.slice 434 0 64 64 true)) .nil))),
 (432,.cells 3 64 (.node (.node (.node (.node (.node (.node (.node .nil (some (.int .i64 (.ofNat 63))) .nil) (some (.int .i64 (.ofNat 31))) .nil) (some (.int .i64 (.ofNat 15))) (.node .nil (some (.int .i64 (.ofNat 47))) .nil)) (some (.int .i64 (.ofNat 7))) (.node (.node .nil (some (.int .i64 (.ofNat 39))) .nil) (some (.int .i64 (.ofNat 23))) (.node .nil (some (.int .i64 (.ofNat 55))) .nil))) (some (.int .i64 (.ofNat 3))) (.node (.node (.node .nil (some (.int .i64 (.ofNat 35))) .nil) (some (.int .i64 (.ofNat 19))) (.node .nil (some (.int .i64 (.ofNat 51))) .nil)) (some (.int .i64 (.ofNat 11))) (.node (.node .nil (some (.int .i64 (.ofNat 43))) .nil) (some (.int .i64 (.ofNat 27))) (.node .nil (some (.int .i64 (.ofNat 59))) .nil)))) (some (.int .i64 (.ofNat 1))) (.node (.node (.node (.node .nil (some (.int .i64 (.ofNat 33))) .nil) (some (.int .i64 (.ofNat 17))) (.node .nil (some (.int .i64 (.ofNat 49))) .nil)) (some (.int .i64 (.ofNat 9))) (.node (.node .nil (some (.int .i64 (.ofNat 41))) .nil) (some (.int .i64 (.ofNat 25))) (.node .nil (some (.int .i64 (.ofNat 57))) .nil))) (some (.int .i64 (.ofNat 5))) (.node (.node (.node .nil (some (.int .i64 (.ofNat 37))) .nil) (some (.int .i64 (.ofNat 21))) (.node .nil (some (.int .i64 (.ofNat 53))) .nil)) (some (.int .i64 (.ofNat 13))) (.node (.node .nil (some (.int .i64 (.ofNat 45))) .nil) (some (.int .i64 (.ofNat 29))) (.node .nil (some (.int .i64 (.ofNat 61))) .nil))))) (some (.int .i64 (.ofNat 0))) (.node (.node (.node (.node (.node .nil (some (.int .i64 (.ofNat 32))) .nil) (some (.int .i64 (.ofNat 16))) (.node .nil (some (.int .i64 (.ofNat 48))) .nil)) (some (.int .i64 (.ofNat 8))) (.node (.node .nil (some (.int .i64 (.ofNat 40))) .nil) (some (.int .i64 (.ofNat 24))) (.node .nil (some (.int .i64 (.ofNat 56))) .nil))) (some (.int .i64 (.ofNat 4))) (.node (.node (.node .nil (some (.int .i64 (.ofNat 36))) .nil) (some (.int .i64 (.ofNat 20))) (.node .nil (some (.int .i64 (.ofNat 52))) .nil)) (some (.int .i64 (.ofNat 12))) (.node (.node .nil (some (.int .i64 (.ofNat 44))) .nil) (some (.int .i64 (.ofNat 28))) (.node .nil (some (.int .i64 (.ofNat 60))) .nil)))) (some (.int .i64 (.ofNat 2))) (.node (.node (.node (.node .nil (some (.int .i64 (.ofNat 34))) .nil) (some (.int .i64 (.ofNat 18))) (.node .nil (some (.int .i64 (.ofNat 50))) .nil)) (some (.int .i64 (.ofNat 10))) (.node (.node .nil (some (.int .i64 (.ofNat 42))) .nil) (some (.int .i64 (.ofNat 26))) (.node .nil (some (.int .i64 (.ofNat 58))) .nil))) (some (.int .i64 (.ofNat 6))) (.node (.node (.node .nil (some (.int .i64 (.ofNat 38))) .nil) (some (.int .i64 (.ofNat 22))) (.node .nil (some (.int .i64 (.ofNat 54))) .nil)) (some (.int .i64 (.ofNat 14))) (.node (.node .nil (some (.int .i64 (.ofNat 46))) .nil) (some (.int .i64 (.ofNat 30))) (.node .nil (some (.int .i64 (.ofNat 62))) .nil))))))),
 (434,.cells 59 64 (.node (.node (.node (.node (.node (.node (.node .nil (some (.nilslice)) .nil) (some (.nilslice)) .nil) (some (.nilslice)) (.node .nil (some (.nilslice)) .nil)) (some (.nilslice)) (.node (.node .nil (some (.nilslice)) .nil) (some (.nilslice)) (.node .nil (some (.nilslice)) .nil))) (some (.nilslice)) (.node (.node (.node .nil (some (.nilslice)) .nil) (some (.nilslice)) (.node .nil (some (.nilslice)) .nil)) (some (.nilslice)) (.node (.node .nil (some (.nilslice)) .nil) (some (.nilslice)) (.node .nil (some (.nilslice)) .nil)))) (some (.nilslice)) (.node (.node (.node (.node .nil (some (.nilslice)) .nil) (some (.nilslice)) (.node .nil (some (.nilslice)) .nil)) (some (.nilslice)) (.node (.node .nil (some (.nilslice)) .nil) (some (.nilslice)) (.node .nil (some (.nilslice)) .nil))) (some (.nilslice)) (.node (.node (.node .nil (some (.nilslice)) .nil) (some (.nilslice)) (.node .nil (some (.nilslice)) .nil)) (some (.nilslice)) (.node (.node .nil (some (.nilslice)) .nil) (some (.nilslice)) (.node .nil (some (.nilslice)) .nil))))) (some (.nilslice)) (.node (.node (.node (.node (.node .nil (some (.nilslice)) .nil) (some (.nilslice)) (.node .nil (some (.nilslice)) .nil)) (some (.nilslice)) (.node (.node .nil (some (.nilslice)) .nil) (some (.nilslice)) (.node .nil (some (.nilslice)) .nil))) (some (.nilslice)) (.node (.node (.node .nil (some (.nilslice)) .nil) (some (.nilslice)) (.node .nil (some (.nilslice)) .nil)) (some (.nilslice)) (.node (.node .nil (some (.nilslice)) .nil) (some (.nilslice)) (.node .nil (some (.nilslice)) .nil)))) (some (.nilslice)) (.node (.node (.node (.node .nil (some (.nilslice)) .nil) (some (.nilslice)) (.node .nil (some (.nilslice)) .nil)) (some (.nilslice)) (.node (.node .nil (some (.nilslice)) .nil) (some (.nilslice)) (.node .nil (some (.nilslice)) .nil))) (some (.nilslice)) (.node (.node (.node .nil (some (.nilslice)) .nil) (some (.nilslice)) (.node .nil (some (.nilslice)) .nil)) (some (.nilslice)) (.node (.node .nil (some (.nilslice)) .nil) (some (.nilslice)) (.node .nil (some (.nilslice)) .nil))))))),
 (435,.cells 59 64 (.node (.node (.node (.node (.node (.node (.node .nil (some (.nilslice)) .nil) (some (.nilslice)) .nil) (some (.nilslice)) (.node .nil (some (.nilslice)) .nil)) (some (.nilslice)) (.node (.node .nil (some (.nilslice)) .nil) (some (.nilslice)) (.node .nil (some (.nilslice)) .nil))) (some (.nilslice)) (.node (.node (.node .nil (some (.nilslice)) .nil) (some (.nilslice)) (.node .nil (some (.nilslice)) .nil)) (some (.nilslice)) (.node (.node .nil (some (.nilslice)) .nil) (some (.nilslice)) (.node .nil (some (.nilslice)) .nil)))) (some (.nilslice)) (.node (.node (.node (.node .nil (some (.nilslice)) .nil) (some (.nilslice)) (.node .nil (some (.nilslice)) .nil)) (some (.nilslice)) (.node (.node .nil (some (.nilslice)) .nil) (some (.nilslice)) (.node .nil (some (.nilslice)) .nil))) (some (.nilslice)) (.node (.node (.node .nil (some (.nilslice)) .nil) (some (.nilslice)) (.node .nil (some (.nilslice)) .nil)) (some (.nilslice)) (.node (.node .nil (some (.nilslice)) .nil) (some (.nilslice)) (.node .nil (some (.nilslice)) .nil))))) (some (.nilslice)) (.node (.node (.node (.node (.node .nil (some (.nilslice)) .nil) (some (.nilslice)) (.node .nil (some (.nilslice)) .nil)) (some (.nilslice)) (.node (.node .nil (some (.nilslice)) .nil) (some (.nilslice)) (.node .nil (some (.nilslice)) .nil))) (some (.nilslice)) (.node (.node (.node .nil (some (.nilslice)) .nil) (some (.nilslice)) (.node .nil (some (.nilslice)) .nil)) (some (.nilslice)) (.node (.node .nil (some (.nilslice)) .nil) (some (.nilslice)) (.node .nil (some (.nilslice)) .nil)))) (some (.nilslice)) (.node (.node (.node (.node .nil (some (.nilslice)) .nil) (some (.nilslice)) (.node .nil (some (.nilslice)) .nil)) (some (.nilslice)) (.node (.node .nil (some (.nilslice)) .nil) (some (.nilslice)) (.node .nil (some (.nilslice)) .nil))) (some (.nilslice)) (.node (.node (.node .nil (some (.nilslice)) .nil) (some (.nilslice)) (.node .nil (some (.nilslice)) .nil)) (some (.nilslice)) (.node (.node .nil (some (.nilslice)) .nil) (some (.nilslice)) (.node .nil (some (.nilslice)) .nil))))))),
 (629,.cells 182 1 (.node .nil (some (.ptr 303 0)) .nil)),
 (630,.cells 185 1 (.node .nil (some (.nilslice)) .nil)),
 (631,.cells 188 1 (.node .nil (some (.nilslice)) .nil)),
 (632,.cells 191 1 (.node .nil (some (.nilslice)) .nil)),
 (633,.cells 114 10 (.node (.node (.node (.node .nil (some (.nilslice)) .nil) (some (.nilslice)) .nil) (some (.ptr 300 0)) (.node (.node .nil (some (.ptr 632 0)) .nil) (some (.ptr 630 0)) .nil)) (some (.int .i64 (.ofNat 0))) (.node (.node (.node .nil (some (.nilslice)) .nil) (some (.ptr 629 0)) .nil) (some (.ptr 301 0)) (.node .nil (some (.ptr 631 0)) .nil))))]
def Wr:zd:=.ptr 633 0
def Uy:Nat:=334
def um:Fact:=.make 16 [] 300 Uy YI Wr
def EA (l:List Fact):Env:=Kd Tryz.prog specs l zW
def FU:Nat:=1000000
def sU:Bool:=bP (EA []) FU 16 [] 300 Uy YI Wr
def ez:Bool:=gR (EA [um]) FU 5 [] 300 (.bool true)
end
end MK
end
end Go.AEv
namespace Go.Proofs
open Go.Shelf
def Tryz.bp:Go.Shelf.Ren:=⟨fun | 171=>44 | 243=>90 | 246=>130 | 283=>191 | 284=>192 | 285=>193 | 286=>194 | 129=>271 | 317=>270 | 318=>272 | 319=>273 | 320=>274 | 337=>341 | 338=>116 | n=>n,fun | 3=>3 | 9=>9 | 2=>2 | 4=>4 | 171=>293 | 0=>0 | 53=>93 | 37=>22 | 5=>5 | 173=>295 | 212=>377 | 51=>378 | 20=>20 | 213=>379 | 46=>149 | 232=>445 | 233=>289 | n=>n,fun | 17=>1 | 18=>2 | 19=>0 | n=>n⟩
theorem Tryz.rX:Go.Proofs.LaysM.n171 Tryz.prog Tryz.bp:={
 mixed:=by kernel_rfl
 f129:=Tryz.func271.trans (congrArg some (by kernel_rfl))
 f171:=Tryz.func44.trans (congrArg some (by kernel_rfl))
 f243:=Tryz.func90.trans (congrArg some (by kernel_rfl))
 f246:=Tryz.func130.trans (congrArg some (by kernel_rfl))
 f283:=Tryz.func191.trans (congrArg some (by kernel_rfl))
 f284:=Tryz.func192.trans (congrArg some (by kernel_rfl))
 f285:=Tryz.func193.trans (congrArg some (by kernel_rfl))
 f286:=Tryz.func194.trans (congrArg some (by kernel_rfl))
 f317:=Tryz.func270.trans (congrArg some (by kernel_rfl))
 f318:=Tryz.func272.trans (congrArg some (by kernel_rfl))
 f319:=Tryz.func273.trans (congrArg some (by kernel_rfl))
 f320:=Tryz.func274.trans (congrArg some (by kernel_rfl))
 f337:=Tryz.func341.trans (congrArg some (by kernel_rfl))
 f338:=Tryz.func116.trans (congrArg some (by kernel_rfl))
 t0:=Tryz.underlying0
 a0:=Tryz.isAgg0
 z0:=Tryz.sizeOf0
 v0:=Tryz.zeroValue0
 t2:=Tryz.underlying2
 a2:=Tryz.isAgg2
 z2:=Tryz.sizeOf2
 v2:=Tryz.zeroValue2
 t3:=Tryz.underlying3
 a3:=Tryz.isAgg3
 z3:=Tryz.sizeOf3
 v3:=Tryz.zeroValue3
 t4:=Tryz.underlying4
 a4:=Tryz.isAgg4
 z4:=Tryz.sizeOf4
 v4:=Tryz.zeroValue4
 t5:=Tryz.underlying5
 a5:=Tryz.isAgg5
 z5:=Tryz.sizeOf5
 v5:=Tryz.zeroValue5
 t9:=Tryz.underlying9
 a9:=Tryz.isAgg9
 z9:=Tryz.sizeOf9
 v9:=Tryz.zeroValue9
 t20:=Tryz.underlying20
 a20:=Tryz.isAgg20
 z20:=Tryz.sizeOf20
 v20:=Tryz.zeroValue20
 t37:=Tryz.underlying22
 a37:=Tryz.isAgg22
 z37:=Tryz.sizeOf22
 v37:=Tryz.zeroValue22
 t46:=Tryz.underlying149
 a46:=Tryz.isAgg149
 z46:=Tryz.sizeOf149
 v46:=Tryz.zeroValue149
 t51:=Tryz.underlying378
 a51:=Tryz.isAgg378
 z51:=Tryz.sizeOf378
 v51:=Tryz.zeroValue378
 t53:=Tryz.underlying93
 a53:=Tryz.isAgg93
 z53:=Tryz.sizeOf93
 v53:=Tryz.zeroValue93
 t171:=Tryz.underlying293
 a171:=Tryz.isAgg293
 z171:=Tryz.sizeOf293
 v171:=Tryz.zeroValue293
 t173:=Tryz.underlying295
 a173:=Tryz.isAgg295
 z173:=Tryz.sizeOf295
 v173:=Tryz.zeroValue295
 t212:=Tryz.underlying377
 a212:=Tryz.isAgg377
 z212:=Tryz.sizeOf377
 v212:=Tryz.zeroValue377
 t213:=Tryz.underlying379
 a213:=Tryz.isAgg379
 z213:=Tryz.sizeOf379
 t232:=Tryz.underlying445
 a232:=Tryz.isAgg445
 z232:=Tryz.sizeOf445
 v232:=Tryz.zeroValue445
 t233:=Tryz.underlying289
 a233:=Tryz.isAgg289
 z233:=Tryz.sizeOf289
 v233:=Tryz.zeroValue289
 g17:=by kernel_rfl
 g18:=by kernel_rfl
 g19:=by kernel_rfl
 i0:=by kernel_rfl
 i2:=by kernel_rfl
 i3:=by kernel_rfl
 i4:=by kernel_rfl
 i5:=by kernel_rfl
 i9:=by kernel_rfl
 i20:=by kernel_rfl
 i37:=by kernel_rfl
 i46:=by kernel_rfl
 i51:=by kernel_rfl
 i53:=by kernel_rfl
 i171:=by kernel_rfl
 i173:=by kernel_rfl
 i212:=by kernel_rfl
 i232:=by kernel_rfl
 i233:=by kernel_rfl
 m17:=by kernel_rfl
 m18:=by kernel_rfl
 m19:=by kernel_rfl }
open Go.RowKit Go.Sort Go.Lib in
theorem Tryz.strconv_Itoa (n : Int) (h0 : -9223372036854775808 ≤ n) (h1 : n ≤ 9223372036854775807) (w : World) (htab : Lib.TabIs Tryz.prog w "internal/strconv.uint64pow10" .u64 Lib.pow10Tab) :
    Calls Tryz.prog 44 #[.int .i64 n] w fun e w' => e = .returned (.string ⟨(Lib.itoa n).toArray⟩) ∧ ∃ k os, w' = grow (w.drewN k) os := Any.strconv_Itoa Tryz.rX n h0 h1 w htab
def Tryz.dN:Go.Shelf.Ren:=⟨fun | 171=>44 | 243=>90 | 246=>130 | 283=>191 | 284=>192 | 285=>193 | 286=>194 | 129=>271 | 317=>270 | 318=>272 | 319=>273 | 320=>274 | 337=>341 | 338=>116 | n=>n,fun | 3=>3 | 9=>9 | 2=>2 | 4=>4 | 171=>293 | 0=>0 | 53=>93 | 37=>22 | 5=>5 | 173=>295 | 212=>377 | 51=>378 | 20=>20 | 213=>379 | 46=>149 | 232=>445 | 233=>289 | n=>n,fun | 17=>1 | 18=>2 | 19=>0 | n=>n⟩
theorem Tryz.uD:Go.Proofs.Lays.n171 Tryz.prog Tryz.dN:={
 mixed:=by kernel_rfl
 f129:=Tryz.func271.trans (congrArg some (by kernel_rfl))
 f171:=Tryz.func44.trans (congrArg some (by kernel_rfl))
 f243:=Tryz.func90.trans (congrArg some (by kernel_rfl))
 f246:=Tryz.func130.trans (congrArg some (by kernel_rfl))
 f283:=Tryz.func191.trans (congrArg some (by kernel_rfl))
 f284:=Tryz.func192.trans (congrArg some (by kernel_rfl))
 f285:=Tryz.func193.trans (congrArg some (by kernel_rfl))
 f286:=Tryz.func194.trans (congrArg some (by kernel_rfl))
 f317:=Tryz.func270.trans (congrArg some (by kernel_rfl))
 f318:=Tryz.func272.trans (congrArg some (by kernel_rfl))
 f319:=Tryz.func273.trans (congrArg some (by kernel_rfl))
 f320:=Tryz.func274.trans (congrArg some (by kernel_rfl))
 f337:=Tryz.func341.trans (congrArg some (by kernel_rfl))
 f338:=Tryz.func116.trans (congrArg some (by kernel_rfl))
 t0:=Tryz.underlying0
 a0:=Tryz.isAgg0
 z0:=Tryz.sizeOf0
 v0:=Tryz.zeroValue0
 t2:=Tryz.underlying2
 a2:=Tryz.isAgg2
 z2:=Tryz.sizeOf2
 v2:=Tryz.zeroValue2
 t3:=Tryz.underlying3
 a3:=Tryz.isAgg3
 z3:=Tryz.sizeOf3
 v3:=Tryz.zeroValue3
 t4:=Tryz.underlying4
 a4:=Tryz.isAgg4
 z4:=Tryz.sizeOf4
 v4:=Tryz.zeroValue4
 t5:=Tryz.underlying5
 a5:=Tryz.isAgg5
 z5:=Tryz.sizeOf5
 v5:=Tryz.zeroValue5
 t9:=Tryz.underlying9
 a9:=Tryz.isAgg9
 z9:=Tryz.sizeOf9
 v9:=Tryz.zeroValue9
 t20:=Tryz.underlying20
 a20:=Tryz.isAgg20
 z20:=Tryz.sizeOf20
 v20:=Tryz.zeroValue20
 t37:=Tryz.underlying22
 a37:=Tryz.isAgg22
 z37:=Tryz.sizeOf22
 v37:=Tryz.zeroValue22
 t46:=Tryz.underlying149
 a46:=Tryz.isAgg149
 z46:=Tryz.sizeOf149
 v46:=Tryz.zeroValue149
 t51:=Tryz.underlying378
 a51:=Tryz.isAgg378
 z51:=Tryz.sizeOf378
 v51:=Tryz.zeroValue378
 t53:=Tryz.underlying93
 a53:=Tryz.isAgg93
 z53:=Tryz.sizeOf93
 v53:=Tryz.zeroValue93
 t171:=Tryz.underlying293
 a171:=Tryz.isAgg293
 z171:=Tryz.sizeOf293
 v171:=Tryz.zeroValue293
 t173:=Tryz.underlying295
 a173:=Tryz.isAgg295
 z173:=Tryz.sizeOf295
 v173:=Tryz.zeroValue295
 t212:=Tryz.underlying377
 a212:=Tryz.isAgg377
 z212:=Tryz.sizeOf377
 v212:=Tryz.zeroValue377
 t213:=Tryz.underlying379
 a213:=Tryz.isAgg379
 z213:=Tryz.sizeOf379
 t232:=Tryz.underlying445
 a232:=Tryz.isAgg445
 z232:=Tryz.sizeOf445
 v232:=Tryz.zeroValue445
 t233:=Tryz.underlying289
 a233:=Tryz.isAgg289
 z233:=Tryz.sizeOf289
 v233:=Tryz.zeroValue289
 g17:=by kernel_rfl
 g18:=by kernel_rfl
 g19:=by kernel_rfl }
open Go.RowKit Go.Sort Go.Lib in
theorem Tryz.strconv_Itoa_small (i : Nat) (hi : i < 100) (w : World) :
    Calls Tryz.prog 44 #[.int .i64 i] w fun e w' => e = .returned (.string ⟨(Lib.decDigits i).toArray⟩) ∧ w' = w := Any.strconv_Itoa_small Tryz.uD i hi w
end Go.Proofs
namespace Go.Proofs.YtmlimgmmpjhifaaGreatDoor
open Go
theorem wz (os:Os):((World.laidAll Tryz.prog os Rows.changeBytesRow.laid).forCall (fun _ _=>0) ⟨#[],#[.agg #[.int .u8 0,.int .u8 0,.int .u8 0,.int .u8 0,.int .u8 0,.int .u8 0,.slice none 0 0]],[]⟩).variablesZipB Tryz.prog=true:=by kernel_rfl
theorem wh (os:Os):(((World.laidAll Tryz.prog os Rows.changeBytesRow.laid).forCall (fun _ _=>0) ⟨#[],#[.agg #[.int .u8 0,.int .u8 0,.int .u8 0,.int .u8 0,.int .u8 0,.int .u8 0,.slice none 0 0]],[]⟩).heap.toList.drop Tryz.prog.globals.size).take ((begin Tryz.prog (fun _ _=>0) default).world.heap.size-Tryz.prog.globals.size)=(begin Tryz.prog (fun _ _=>0) default).world.heap.toList.drop Tryz.prog.globals.size:=by kernel_rfl
end Go.Proofs.YtmlimgmmpjhifaaGreatDoor
namespace Go.Proofs.YtmlimgmmpjhifaaGreatDoor
open Go
theorem wo (os:Os):Input.okWideB Tryz.prog ((World.laidAll Tryz.prog os Rows.changeBytesRow.laid).forCall (fun _ _=>0) ⟨#[],#[.agg #[.int .u8 0,.int .u8 0,.int .u8 0,.int .u8 0,.int .u8 0,.int .u8 0,.slice none 0 0]],[]⟩) 3 ⟨#[],#[.agg #[.int .u8 0,.int .u8 0,.int .u8 0,.int .u8 0,.int .u8 0,.int .u8 0,.slice none 0 0]],[]⟩=true:=by kernel_rfl
theorem wp (os:Os) (H:Type) (enc:TypeId×Value→H):Rows.changeBytesSpec.preB enc Tryz.prog Tryz.f3 [] false ((World.laidAll Tryz.prog os Rows.changeBytesRow.laid).forCall (fun _ _=>0) ⟨#[],#[.agg #[.int .u8 0,.int .u8 0,.int .u8 0,.int .u8 0,.int .u8 0,.int .u8 0,.slice none 0 0]],[]⟩).memory #[.agg #[.int .u8 0,.int .u8 0,.int .u8 0,.int .u8 0,.int .u8 0,.int .u8 0,.slice none 0 0]] 8=true:=by kernel_rfl
theorem ws (os:Os) (H:Type) (enc:TypeId×Value→H):Rows.changeBytesSpec.sizedB enc Tryz.prog Tryz.f3 false ((World.laidAll Tryz.prog os Rows.changeBytesRow.laid).forCall (fun _ _=>0) ⟨#[],#[.agg #[.int .u8 0,.int .u8 0,.int .u8 0,.int .u8 0,.int .u8 0,.int .u8 0,.slice none 0 0]],[]⟩).memory #[.agg #[.int .u8 0,.int .u8 0,.int .u8 0,.int .u8 0,.int .u8 0,.int .u8 0,.slice none 0 0]] 8=true:=by kernel_rfl
end Go.Proofs.YtmlimgmmpjhifaaGreatDoor
namespace Go.Proofs.YtmlimgmmpjhifaaGreatDoor
open Go
theorem wf (os:Os):(World.holding Tryz.prog os ⟨#[],#[],[]⟩).layFits Tryz.prog Rows.changeBytesRow.laid []=true:=by kernel_rfl
theorem wi (os:Os):(World.holding Tryz.prog os ⟨#[],#[],[]⟩).layIfaces Tryz.prog Rows.changeBytesRow.laid (World.laidAll Tryz.prog os Rows.changeBytesRow.laid)=true:=by kernel_rfl
end Go.Proofs.YtmlimgmmpjhifaaGreatDoor
namespace Go.Proofs.YtmlimgmmpjhifaaGreatDoor
theorem cf1:(Rows.changeBytesRow.wf (OpenSpec.ofChange Rows.changeBytesSpec))=true:=by kernel_rfl
theorem cf2:(laidOutB Tryz.prog)=true:=by kernel_rfl
theorem cf3:(mapsRowed Tryz.prog)=true:=by kernel_rfl
theorem cf4:(Tryz.f3.params.all (Tryz.prog.readableRec ·))=true:=by kernel_rfl
theorem cf5:(namedTie Tryz.prog Rows.changeBytesRow.named Rows.changeBytesSpec.vars)=true:=by kernel_rfl
theorem cf6:((Rows.changeBytesRow.stops==[]))=true:=by kernel_rfl
theorem cf7:((Tryz.prog.stops==[]))=true:=by kernel_rfl
theorem cf8:((Rows.changeBytesRow.knobs==[]))=true:=by kernel_rfl
theorem cf9:((Tryz.prog.stopKnobs==[]))=true:=by kernel_rfl
theorem Gh:((Rows.changeBytesRow.maps==(Tryz.f3.params.toList++Rows.changeBytesSpec.plain.varTypes Tryz.prog).any (Tryz.prog.mapsRec ·)))=true:=by kernel_rfl
theorem Gg:((Rows.changeBytesRow.ifaces==(Tryz.f3.params.toList++Rows.changeBytesSpec.plain.varTypes Tryz.prog).any (Tryz.prog.ifacesRec ·)))=true:=by kernel_rfl
theorem Gf:((Rows.changeBytesRow.mapsOut==Tryz.prog.mapsAmong Tryz.f3.resultTypes.toList))=true:=by kernel_rfl
theorem Ge:((Rows.changeBytesRow.loops==(Tryz.f3.params.toList++Rows.changeBytesSpec.plain.varTypes Tryz.prog).any (Tryz.prog.loopsFrom ·)))=true:=by kernel_rfl
theorem Gc:((Rows.changeBytesRow.wideKeys==(Tryz.f3.params.toList++Rows.changeBytesSpec.plain.varTypes Tryz.prog++Tryz.f3.resultTypes.toList).any (Tryz.prog.wideKeysFrom ·)))=true:=by kernel_rfl
theorem Gb:(Rows.changeBytesSpec.vars.all (Tryz.prog.varReadable ·))=true:=by kernel_rfl
theorem Ga:(Tryz.f3.resultTypes.all (fun t=>Tryz.prog.readableRec t&&decide (t<Tryz.prog.types.size)))=true:=by kernel_rfl
theorem F9:((Rows.changeBytesRow.ifacesOut==Tryz.f3.resultTypes.toList.any (Tryz.prog.ifacesRec ·)))=true:=by kernel_rfl
theorem F8:((Rows.changeBytesRow.loopsOut==Tryz.f3.resultTypes.toList.any (Tryz.prog.loopsFrom ·)))=true:=by kernel_rfl
theorem F7:((Rows.changeBytesRow.plainKeys==Tryz.prog.plainKeys))=true:=by kernel_rfl
theorem F6:(Rows.changeBytesRow.shortTexts.isNone)=true:=by kernel_rfl
theorem F4:(Tryz.prog.stopsHeard)=true:=by kernel_rfl
theorem FW:((Rows.changeBytesRow.lifted==Tryz.prog.liftsFinal))=true:=by kernel_rfl
theorem FV:((Tryz.prog.make==some Rows.changeBytesRow.make))=true:=by kernel_rfl
theorem FR:((Rows.changeBytesRow.kinds==(if Rows.changeBytesRow.domain.isEmpty then [] else Tryz.f3.params.toList.map fun t=>match Tryz.prog.underlying t with | some (.int k)=>some k | _=>none)))=true:=by kernel_rfl
theorem FQ:((Rows.changeBytesRow.pinned==Rows.changeBytesRow.pinnedBy))=true:=by kernel_rfl
theorem FO:((Rows.changeBytesRow.veiled==(Tryz.f3.params.toList++Rows.changeBytesSpec.plain.varTypes Tryz.prog++Tryz.f3.resultTypes.toList).any (Tryz.prog.veiledRec ·)))=true:=by kernel_rfl
theorem FN:(Rows.changeBytesRow.veiledFits Tryz.prog Tryz.f3.params.toList (Tryz.f3.params.toList++Rows.changeBytesSpec.plain.varTypes Tryz.prog++Tryz.f3.resultTypes.toList))=true:=by kernel_rfl
end Go.Proofs.YtmlimgmmpjhifaaGreatDoor
namespace Go.Proofs.YtmlimgmmpjhifaaGreatDoor
theorem Gl:((Rows.changeBytesRow.inPlace==Tryz.prog.inPlace 3))=true:=by kernel_rfl
theorem Gk:((Rows.changeBytesRow.unfollowed==Tryz.prog.unfollowed 3))=true:=by kernel_rfl
theorem Gj:((Rows.changeBytesRow.recurses==Tryz.prog.recurses 3))=true:=by kernel_rfl
end Go.Proofs.YtmlimgmmpjhifaaGreatDoor
namespace Go.Proofs.YtmlimgmmpjhifaaGreatDoor
theorem Gi:((Rows.changeBytesRow.named==Tryz.prog.varsNamed 3))=true:=by kernel_rfl
theorem FZ:(Tryz.prog.mayEnter)=true:=by kernel_rfl
end Go.Proofs.YtmlimgmmpjhifaaGreatDoor
namespace Go.Proofs.YtmlimgmmpjhifaaGreatDoor
theorem U7 {P:Program} (h:P.funcs.any Func.goes=false) (f:FuncId):P.goes f=false:=by
 have key:∀ g:FuncId,(P.funcs[g]?).any Func.goes=false:=by
  intro g
  cases hg:P.funcs[g]? with
  | none=>rfl
  | some fn=>
   rw [Array.any_eq_false]at h
   obtain ⟨hlt,rfl⟩:=Array.getElem?_eq_some_iff.1 hg
   simpa using h g hlt
 unfold Program.goes
 rw [h,Bool.and_false,Bool.or_false,Bool.eq_false_iff]
 intro hx
 obtain ⟨g,_,hg⟩:=List.any_eq_true.1 hx
 rw [key g]at hg
 cases hg
theorem ef {P:Program} (h:P.funcs.any Func.goes=false) (s:Start) (n:String):P.goesAt s n=false:=by
 unfold Program.goesAt Program.goesFrom
 have h1:∀ o:Option FuncId,o.any P.goes=false:=by
  intro o
  cases o with
  | none=>rfl
  | some f=>exact U7 h f
 have h2:∀ l:List FuncId,l.any P.goes=false:=by
  intro l
  rw [Bool.eq_false_iff]
  intro hx
  obtain ⟨f,_,hf⟩:=List.any_eq_true.1 hx
  rw [U7 h f]at hf
  cases hf
 rw [h1,Bool.false_or]
 split
 ·rfl
 ·exact h2 _
theorem sx:Tryz.prog.funcs.any Func.goes=false:=by kernel_rfl
theorem sy:false=Rows.changeBytesRow.goesBy Tryz.prog:=(ef sx Rows.changeBytesRow.start Rows.changeBytesRow.func).symm
end Go.Proofs.YtmlimgmmpjhifaaGreatDoor
namespace Go.Proofs.YtmlimgmmpjhifaaGreatDoor
theorem wJ:Rows.changeBytesRow.wfByText (OpenSpec.ofChange Rows.changeBytesSpec)=true:=by kernel_rfl
theorem rE:Tryz.prog.mainIs=some (true,("296bbd89bbe506208b0cdd6df61ca08f6f487751c8f9b9554573fc59e6eaccfc" : String).toList):=by kernel_rfl
theorem ny:true=Tryz.prog.looks []:=by kernel_rfl
end Go.Proofs.YtmlimgmmpjhifaaGreatDoor
