/- Bytes that a call makes; numbers and texts as bytes. Conditions: none. -/
import Derived.Test.YtmlimgmmpjhifaaGreatDoorH6x0
set_option linter.all false
namespace Go.AEv
section
open Go Go.Proofs TR
namespace MK
open Go.AEv.GT (zO qq)
theorem ty5:GT.Ty1 22 5 1:=⟨by kernel_rfl,by kernel_rfl,by kernel_rfl,by kernel_rfl,by kernel_rfl,by decide⟩
structure Bs (w0 w:World) (v:Value) (L:List Nat):Prop where
 row:zO 5 1 w0.heap.size w v L.length (L.map fun x=>.int .u8 (x:Nat))
 lt:∀ x∈L,x<256
 g:Grown w0 w
theorem Bs.grown {w0 w w2:World}{v:Value}{L:List Nat} (h:Bs w0 w v L) (g:Grown w w2):Bs w0 w2 v L:=⟨h.row.grown g,h.lt,h.g.trans' g⟩
theorem Bs.before {w0 w1 w:World}{v:Value}{L:List Nat} (h:Bs w1 w v L) (g:Grown w0 w1):Bs w0 w v L:=⟨h.row.lower g.size,h.lt,g.trans' h.g⟩
theorem Bs.byL {w0 w:World}{v:Value}{L:List Nat} (h:Bs w0 w v L) (few:L.length≤100000):∃ p c,v = .slice p L.length c∧ByL w p L.length L∧L.length≤c:=by
 obtain ⟨p,c,e,hc,hcs,_⟩:=ju h.row
 exact ⟨p,c,e,⟨hcs,rfl,Nat.le_trans few (by decide),h.lt⟩,hc⟩
theorem iU {P:Program}{tx e':TypeId}{size:Nat} (h:P.underlying tx=some (.slice e')) (p:Option Addr) (c:Nat) (w:World):Go.Src P size tx (.slice p 0 c) 0 [] w:=by
 refine ⟨.inl ⟨e',h⟩,fun _=>?_,?_,?_,by simp,fun _ h=>by cases h⟩
 ·simp [Builtin.lenOf]
 ·cases p with
  | none=>simp [Builtin.firstCells]
  | some x=>have:=run_loadCells_list (P:=P) w x [] (by simp);simpa [Builtin.firstCells] using this
 ·cases p with
  | none=>simp [Builtin.firstCells]
  | some x=>have:=run_loadCells_list (P:=P) w.drew x [] (by simp);simpa [Builtin.firstCells] using this
theorem u8_one {M:List Nat}:∀ u∈M.map (fun x=>Value.int .u8 (x:Nat)),u.oneCell'=true:=fun u hu=>by
 obtain ⟨x,_,rfl⟩:=List.mem_map.1 hu
 rfl
theorem cY {w0 w:World}{v:Value}{L M:List Nat}{p:Option Addr}{n c:Nat} (ty:TypeId) (h:Bs w0 w v L) (hM:ByL w p n M) (few:L.length+n≤100000):∃ v' w',(Builtin.append_ #[22,22] ty #[v,.slice p n c]).run Tryz.prog w = .ok v' w'∧Bs w0 w' v' (L++M)∧qF v w w':=by
 by_cases h0:n=0
 ·subst h0
  have hM0:M=[]:=List.eq_nil_of_length_eq_zero hM.len
  subst hM0
  rw [List.append_nil]
  obtain ⟨i,_,hi,_⟩:=ty5.inf
  refine ⟨v,w,?_,h,fun _ _ _=>rfl,Nat.le_refl _,rfl,rfl,rfl⟩
  rcases h.row.ex with ⟨_,rfl⟩ | ⟨x,rfl,_,_⟩
  ·exact run_append_nothing w 22 22 ty 5 i ty5.u hi none 0 0 (Nat.le_refl _) _ (iU ty5.u p c w)
  ·exact run_append_nothing w 22 22 ty 5 i ty5.u hi _ _ _ (Nat.le_add_right _ _) _ (iU ty5.u p c w)
 ·obtain ⟨b,o,rfl,hc⟩:=hM.cs (fun e=>by have:=hM.len;rw [List.map_eq_nil_iff]at e;rw [e]at this;simp at this;omega)
  obtain ⟨v',w',hr,k1,_,k3⟩:=GT.VX w ty5 ty (c0:=c) (m:=n) (us:=M.map fun x=>.int .u8 (x:Nat)) h.row few (Nat.pos_of_ne_zero h0) h.g.size (by rw [List.length_map,hM.len,Nat.mul_one]) (fun j u hj=>by rw [Addr.add_lit];exact hc j u hj) u8_one
  refine ⟨v',w',hr,⟨?_,fun x hx=>(List.mem_append.1 hx).elim (h.lt x) (hM.lt x),GT.jq h.g h.row k3⟩,k3⟩
  rw [List.length_append,List.map_append,hM.len]
  exact k1
theorem yU {w0 w:World}{ops:Array Oper}{rest:List Oper}{o:Oper}{a:Act}{Q:Exit→Act→World→Prop} (s x:Operand) {L M:List Nat}{p:Option Addr}{n c:Nat} (hg:o.guard=none) (hop:o.op=Op.call { callee:=Callee.builtin Builtin.append,args:=#[s,x],argTypes:=#[22,22] })
  (h:Bs w0 w (a.eval s) L) (hM:ByL w p n M) (few:L.length+n≤100000) (hx:a.eval x = .slice p n c)
  (hK:∀ v' w',Bs w0 w' v' (L++M)→qF (a.eval s) w w'→wpList Tryz.prog ops Q rest (a.put o.dst v') w'):wpList Tryz.prog ops Q (o::rest) a w:=by
 obtain ⟨v',w',hrun,k,kw⟩:=cY o.type (c:=c) h hM few
 have hw:Region.wanted o (yielded ops a.tmps)=true:=by simp [Region.wanted,hg]
 unfold wpList
 rw [if_pos hw]
 refine .inl ?_
 unfold Oper.wp
 simp [execOp,hop,resolve,invoke,builtin,hx,hrun,Result.andThen]
 exact hK v' w' k kw
theorem Ux {w0 w:World}{ops:Array Oper}{o:Oper}{a:Act}{K:Act→World→Prop}{Q:Exit→Act→World→Prop}{E:Prop} (s x:Operand) {v:Value}{L M:List Nat}{p:Option Addr}{n c:Nat} (hg:o.guard=none) (hop:o.op=Op.call { callee:=Callee.builtin Builtin.append,args:=#[s,x],argTypes:=#[22,22] })
  (h:Bs w0 w v L) (hM:ByL w p n M) (few:L.length+n≤100000) (hs:a.eval s=v) (hx:a.eval x = .slice p n c)
  (hK:∀ v' w',Bs w0 w' v' (L++M)→qF v w w'→K (a.put o.dst v') w'):if Region.wanted o (yielded ops a.tmps)=true then Oper.wp Tryz.prog o a w K Q else E:=by
 obtain ⟨v',w',hrun,k,kw⟩:=cY o.type (c:=c) h hM few
 exact GT.cN s x 22 hg hop hs hx hrun (hK v' w' k kw)
theorem ia {w0 w w2:World}{x:Nat}{b:Nat} (hx:x<256) (g0:Grown w0 w) (hb:b=w.heap.size) (g:Grown (w.alloc (.cells #[.int .u8 (x:Nat)] 5)) w2):Bs w0 w2 (.slice (some ⟨b,0,none⟩) 1 1) [x]:=by
 subst hb
 exact ⟨⟨rfl,.inr ⟨(w.heap.size,0,0),rfl,zk g (zn w),g0.size⟩⟩,fun y hy=>by rw [List.mem_singleton.1 hy];exact hx,(g0.trans' (za _ _)).trans' g⟩
def sb (s:ByteArray):List Nat:=s.data.toList.map UInt8.toNat
theorem kI (s:ByteArray):(sb s).length=s.size:=by unfold sb;rw [List.length_map,Array.length_toList];rfl
theorem sP (w:World) (s:ByteArray) (few:s.size≤100000):∃ cap w1,(convert 9 22 (.string s)).run Tryz.prog w = .ok (.slice (some ⟨w.heap.size,0,none⟩) s.size cap) w1∧Grown w w1∧ByL w1 (some ⟨w.heap.size,0,none⟩) s.size (sb s):=by
 refine ⟨_,_,run_bytes_of_string w 9 22 5 s (by kernel_rfl) (by kernel_rfl) (by kernel_rfl),(zp w).trans' (za _ _),fun _=>⟨_,_,rfl,fun i x hx=>?_⟩,kI s,Nat.le_trans few (by decide),fun x hx=>by
  unfold sb at hx
  obtain ⟨y,_,rfl⟩:=List.mem_map.1 hx
  exact y.toNat_lt⟩
 unfold World.cell?
 rw [show (w.drew.alloc _).heap[w.heap.size]? = _ from heap_alloc_new w.drew _]
 unfold sb at hx
 rw [List.getElem?_map,List.getElem?_map]at hx
 obtain ⟨y,hy,rfl⟩:=Option.map_eq_some_iff.1 hx
 obtain ⟨z,hz,rfl⟩:=Option.map_eq_some_iff.1 hy
 have hz':s.data[i]? = some z:=by simpa using hz
 have hlt:i<s.data.size:=(Array.getElem?_eq_some_iff.1 hz').1
 show (bytesRow s _)[0+i]? = _
 rw [Nat.zero_add,bytesRow_at s _ i hlt]
 rw [Array.getElem?_eq_getElem hlt]at hz'
 cases hz'
 rfl
end MK
end
end Go.AEv
