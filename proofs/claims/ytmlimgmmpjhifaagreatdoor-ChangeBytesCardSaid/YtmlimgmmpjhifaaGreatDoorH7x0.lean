/- The bytes of a change. Conditions: none. -/
import Derived.Test.YtmlimgmmpjhifaaGreatDoorL7a
set_option linter.all false
namespace Go.AEv
section
open Go Go.Proofs TR
namespace MK
open Go.AEv.GT (zO qq)
attribute [local go_sem ↓] Go.wp_at_zero Go.wp_at_succ
structure YSt (w wx:World) (x:Ch) (b3:Nat) (e0 e1 e2 e3 e4 e5 e6 e7 e8:Bool):Prop where
 g:Grown w wx
 a:zx Tryz.prog wx (w.heap.size,0,0) 29 x.cells
 f:zx Tryz.prog wx (b3,0,0) 85 [.bool e0,.bool e1,.bool e2,.bool e3,.bool e4,.bool e5,.bool e6,.bool e7,.bool e8]
theorem YSt.grown {w wx wy:World}{x:Ch}{b3:Nat}{e0 e1 e2 e3 e4 e5 e6 e7 e8:Bool} (h:YSt w wx x b3 e0 e1 e2 e3 e4 e5 e6 e7 e8) (g:Grown wx wy):YSt w wy x b3 e0 e1 e2 e3 e4 e5 e6 e7 e8:=⟨h.g.trans' g,zk g h.a,zk g h.f⟩
theorem YSt.wrote {w wx wy:World}{x:Ch}{b3:Nat}{e0 e1 e2 e3 e4 e5 e6 e7 e8:Bool}{v:Value}{L:List Nat} (h:YSt w wx x b3 e0 e1 e2 e3 e4 e5 e6 e7 e8) (k:qF v wx wy) (hb:Bs w wx v L):YSt w wy x b3 e0 e1 e2 e3 e4 e5 e6 e7 e8:=⟨GT.jq h.g hb.row k,qO h.a k hb.row (by decide),qO h.f k hb.row (by decide)⟩
theorem Vw {w:World}{y b:Nat} (hy:y<256) (hb:b=w.heap.size):ByL (w.alloc (.cells #[.int .u8 (y:Nat)] 5)) (some ⟨b,0,none⟩) 1 [y]:=by
 subst hb
 exact ⟨fun _=>⟨_,_,rfl,fun j u hj=>TR.cell_of_row (zn w (z:=#[.int .u8 (y:Nat)]) (t:=5)) hj⟩,rfl,by decide,fun x m=>by rw [List.mem_singleton.1 m];exact hy⟩
def QL (w:World) (x:Ch) (b3:Nat) (e0 e1 e2 e3 e4 e5 e6 e7 e8:Bool) (K:Nat) (v:Value) (wx:World):Prop:=∃ (p:Option Addr) (c:Nat) (L:List Nat),v = .slice p L.length c∧YSt w wx x b3 e0 e1 e2 e3 e4 e5 e6 e7 e8∧Bs w wx (.slice p L.length c) L∧1≤L.length∧L.length≤K
theorem QL.app {w w7:World}{x:Ch}{b3 K K2:Nat}{e0 e1 e2 e3 e4 e5 e6 e7 e8:Bool}{v:Value}{L M:List Nat} (hb:Bs w w7 v (L++M)) (hy:YSt w w7 x b3 e0 e1 e2 e3 e4 e5 e6 e7 e8) (h1:1≤L.length) (hL:L.length≤K) (hM:M.length≤K2) (few:K+K2≤100000):QL w x b3 e0 e1 e2 e3 e4 e5 e6 e7 e8 (K+K2) v w7:=by
 have hl:(L++M).length=L.length+M.length:=List.length_append
 obtain ⟨p,c,rfl,_⟩:=hb.byL (by omega)
 exact ⟨p,c,L++M,rfl,hy,hb,by omega,by omega⟩
end MK
end
end Go.AEv
