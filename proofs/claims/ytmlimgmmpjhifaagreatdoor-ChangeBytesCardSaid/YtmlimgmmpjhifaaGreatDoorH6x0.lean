/- Changes out of bytes. Conditions: the bytes lie in memory. -/
import Derived.Test.YtmlimgmmpjhifaaGreatDoorL6a
import Derived.Test.YtmlimgmmpjhifaaGreatDoorH5x0
set_option maxRecDepth 100000
set_option linter.all false
namespace Go.AEv
section
open Go Go.Proofs TR
namespace MK
open Go.AEv.GT (zO qq)
open RD (qe)
theorem ByL.take {w:World}{p:Option Addr}{n:Nat}{L:List Nat} (h:ByL w p n L) {m:Nat} (hm:m≤n):ByL w p m (L.take m):=
 ⟨by rw [List.map_take];exact h.cs.take m,by rw [List.length_take,h.len];omega,Nat.le_trans hm h.few,fun x hx=>h.lt x (List.mem_of_mem_take hx)⟩
structure MSt (w wx:World) (k0 k1 k2 k3 k4 k5:Nat) (p:Option Addr) (n c:Nat) (x:Ch):Prop where
 g:Grown w wx
 a:zx Tryz.prog wx (w.heap.size,0,0) 24 [.int .u8 (k0:Nat),.int .u8 (k1:Nat),.int .u8 (k2:Nat),.int .u8 (k3:Nat),.int .u8 (k4:Nat),.int .u8 (k5:Nat),.slice p n c]
 z:zx Tryz.prog wx (w.heap.size+1,0,0) 29 [.int .i64 0,.int .i64 0,.int .i64 0,.int .i64 0,.int .i64 0,.int .i64 0,.int .i64 0,.string ⟨#[]⟩,.string ⟨#[]⟩,.string ⟨#[]⟩,.string ⟨#[]⟩,.bool false]
 xr:zx Tryz.prog wx (w.heap.size+1+1,0,0) 29 x.cells
 ok:x.Ok
section
variable {w wx wy:World}{k0 k1 k2 k3 k4 k5:Nat}{p:Option Addr}{n c:Nat}{x y:Ch}
theorem MSt.grown (h:MSt w wx k0 k1 k2 k3 k4 k5 p n c x) (g:Grown wx wy):MSt w wy k0 k1 k2 k3 k4 k5 p n c x:=⟨h.g.trans' g,zk g h.a,zk g h.z,zk g h.xr,h.ok⟩
theorem MSt.put (h:MSt w wx k0 k1 k2 k3 k4 k5 p n c x) {e:Nat}{v:Value} (hr:zx Tryz.prog (wx.setCell ⟨w.heap.size+1+1,e,none⟩ v) (w.heap.size+1+1,0,0) 29 y.cells) (hy:y.Ok):MSt w (wx.setCell ⟨w.heap.size+1+1,e,none⟩ v) k0 k1 k2 k3 k4 k5 p n c y:=
 ⟨qB h.g (by omega),zV h.a (zo (by show w.heap.size≠w.heap.size+1+1;omega)),zV h.z (zo (by show w.heap.size+1≠w.heap.size+1+1;omega)),hr,hy⟩
theorem MSt.fy (h:MSt w wx k0 k1 k2 k3 k4 k5 p n c x) {s:ByteArray} (hs:s.size≤20):MSt w (wx.setCell ⟨w.heap.size+1+1,7,none⟩ (.string s)) k0 k1 k2 k3 k4 k5 p n c { x with nm:=s }:=h.put (zD h.xr (k:=7) (show 7<12 by omega)) { h.ok with nm:=hs }
theorem MSt.cW (h:MSt w wx k0 k1 k2 k3 k4 k5 p n c x) {s:ByteArray} (hs:s.size≤10000):MSt w (wx.setCell ⟨w.heap.size+1+1,8,none⟩ (.string s)) k0 k1 k2 k3 k4 k5 p n c { x with tx:=s }:=h.put (zD h.xr (k:=8) (show 8<12 by omega)) { h.ok with tx:=hs }
theorem MSt.mU (h:MSt w wx k0 k1 k2 k3 k4 k5 p n c x) {a b:ByteArray}{d:Bool} (ha:a.size≤13) (hb:b.size≤13):MSt w (((wx.setCell ⟨w.heap.size+1+1,9,none⟩ (.string a)).setCell ⟨w.heap.size+1+1,10,none⟩ (.string b)).setCell ⟨w.heap.size+1+1,11,none⟩ (.bool d)) k0 k1 k2 k3 k4 k5 p n c { x with ac:=a,pa:=b,dp:=d }:=by
 have h1:MSt w (wx.setCell ⟨w.heap.size+1+1,9,none⟩ (.string a)) k0 k1 k2 k3 k4 k5 p n c { x with ac:=a }:=h.put (zD h.xr (k:=9) (show 9<12 by omega)) { h.ok with ac:=ha }
 have h2:MSt w ((wx.setCell ⟨w.heap.size+1+1,9,none⟩ (.string a)).setCell ⟨w.heap.size+1+1,10,none⟩ (.string b)) k0 k1 k2 k3 k4 k5 p n c { x with ac:=a,pa:=b }:=h1.put (zD h1.xr (k:=10) (show 10<12 by omega)) { h1.ok with pa:=hb }
 exact h2.put (zD h2.xr (k:=11) (show 11<12 by omega)) { h2.ok with ac:=ha }
abbrev ch0 (k0 k1 k2 k3 k4 k5:Nat):Ch:=⟨1+(k0:Int) % 18,1+(k1:Int) % 6,1+(k2:Int) % 6,1+(k3:Int) % 7,1+(k4:Int) % 7,1+(k4:Int) % 4,6+(k5:Int) % 20,⟨#[]⟩,⟨#[]⟩,⟨#[]⟩,⟨#[]⟩,false⟩
theorem BO:(ch0 k0 k1 k2 k3 k4 k5).Ok:=
 ⟨by show 1≤1+(k0:Int) % 18;omega,by show 1+(k0:Int) % 18≤18;omega,by show 0≤1+(k1:Int) % 6∧1+(k1:Int) % 6≤99;omega,by show 0≤1+(k2:Int) % 6∧1+(k2:Int) % 6≤99;omega,by show 0≤1+(k3:Int) % 7∧1+(k3:Int) % 7≤99;omega,by show 0≤1+(k4:Int) % 7∧1+(k4:Int) % 7≤99;omega,by show 0≤1+(k4:Int) % 4∧1+(k4:Int) % 4≤99;omega,by show 0≤6+(k5:Int) % 20∧6+(k5:Int) % 20≤99;omega,Nat.zero_le _,Nat.zero_le _,Nat.zero_le _,Nat.zero_le _⟩
theorem rz:MSt w (((w.alloc (.cells #[.int .u8 (k0:Nat),.int .u8 (k1:Nat),.int .u8 (k2:Nat),.int .u8 (k3:Nat),.int .u8 (k4:Nat),.int .u8 (k5:Nat),.slice p n c] 24)).alloc (.cells #[.int .i64 0,.int .i64 0,.int .i64 0,.int .i64 0,.int .i64 0,.int .i64 0,.int .i64 0,.string ⟨#[]⟩,.string ⟨#[]⟩,.string ⟨#[]⟩,.string ⟨#[]⟩,.bool false] 29)).alloc (.cells (ch0 k0 k1 k2 k3 k4 k5).cells.toArray 29)) k0 k1 k2 k3 k4 k5 p n c (ch0 k0 k1 k2 k3 k4 k5):=
 ⟨((za _ _).trans' (za _ _)).trans' (za _ _),zk ((za _ _).trans' (za _ _)) (zn w),zk (za _ _) (jS (by rw [zQ])),jS (by rw [zQ,zQ]),BO⟩
end
theorem MSt.wrote {w wx wy:World}{k0 k1 k2 k3 k4 k5:Nat}{p:Option Addr}{n c:Nat}{x:Ch}{v:Value}{lo m:Nat}{us:List Value} (h:MSt w wx k0 k1 k2 k3 k4 k5 p n c x) (k:qF v wx wy) (hv:zO 9 1 lo wx v m us) (hlo:w.heap.size≤lo):MSt w wy k0 k1 k2 k3 k4 k5 p n c x:=
 ⟨GT.jq h.g (hv.lower hlo) k,qO h.a k hv (by decide),qO h.z k hv (by decide),qO h.xr k hv (by decide),h.ok⟩
theorem Rl.wI {w w2:World}{lo l2 n:Nat}{v u:Value}{rs:List Ru}{us:List Value} (h:Rl lo w v rs) (k:qF u w w2) (hv:zO 9 1 l2 w u n us):Rl lo w2 v rs:=
 ⟨YM h.row k hv (by decide),fun r m=>(h.ok r m).same fun a e=>by
  obtain ⟨arr,fz,hh⟩:=(h.ok r m).ty a e
  exact jG k hv (Array.getElem?_eq_some_iff.1 hh).1 (.inr ⟨arr,147,fz,hh,by decide⟩)⟩
theorem fo {w:World}{b o:Nat}{ss:List ByteArray} (h:Cs w (some ⟨b,o,none⟩) (ss.map Value.string)):∀ j u,(ss.map Value.string)[j]? = some u→w.cell? ((⟨b,o,none⟩:Addr).add j)=some u:=fun j u hj=>by
 obtain ⟨b',o',e,hc⟩:=h (fun e=>by rw [e]at hj;cases hj)
 cases e
 rw [Addr.add_lit]
 exact hc j u hj
theorem pf {ss:List ByteArray}:∀ u∈ss.map Value.string,u.oneCell'=true:=fun u hu=>by
 obtain ⟨s,_,rfl⟩:=List.mem_map.1 hu
 rfl
theorem pg {w:World}{lo c:Nat}{p:Option Addr}{s1 s2:List ByteArray} (h:zO 9 1 lo w (.slice p (4+2) c) (4+2) (s1.map Value.string++s2.map Value.string)) (h1:s1.length=4) (h2:s2.length=2) (o1:∀ s∈s1,s.size≤12) (o2:∀ s∈s2,s.size≤12):Jb w p (4+2) (s1++s2):=
 ⟨by rw [List.length_append,h1,h2],by decide,by rw [List.map_append];exact KH h,fun s m=>(List.mem_append.1 m).elim (o1 s) (o2 s)⟩
theorem dU {w w2:World}{b:Nat}{l:List Int} (g:Grown (w.alloc (.cells (l.map (Value.int .i64)).toArray 3)) w2) (hb:b=w.heap.size) (hp:0<l.length) (hf:l.length≤100) (ok:∀ x∈l,0≤x∧x≤63):InL w2 (some ⟨b,0,none⟩) l.length l:=by
 subst hb
 refine ⟨fun _=>⟨_,_,rfl,fun j u hj=>?_⟩,rfl,hp,hf,ok⟩
 exact TR.cell_of_row (zk g (zn w (z:=(l.map (Value.int .i64)).toArray) (t:=3))) (by simpa using hj)
end MK
end
end Go.AEv
