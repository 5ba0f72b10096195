/- Rules out of bytes: the state of a round. Conditions: the lists lie in memory. -/
import Derived.Test.YtmlimgmmpjhifaaGreatDoorH4x0
import Derived.Deep.CutRange
import Derived.BigRegion
set_option maxRecDepth 100000
set_option linter.all false
namespace Go.AEv
section
open Go Go.Proofs TR
namespace MK
open Go.AEv.GT (zO)
open RD (qe)
structure InL (w:World) (p:Option Addr) (n:Nat) (ks:List Int):Prop where
 cs:Cs w p (ks.map fun x=>.int .i64 x)
 len:ks.length=n
 pos:0<n
 few:n≤100
 ok:∀ x∈ks,0≤x∧x≤63
theorem InL.grown {w w2:World}{p:Option Addr}{n:Nat}{ks:List Int} (h:InL w p n ks) (g:Grown w w2):InL w2 p n ks:=⟨h.cs.grown g,h.len,h.pos,h.few,h.ok⟩
theorem InL.at {w:World}{p:Option Addr}{n:Nat}{ks:List Int} (h:InL w p n ks) (x:Nat):∃ (b o:Nat) (k:Int),p=some ⟨b,o,none⟩∧w.cell? ⟨b,o+x % n,none⟩=some (.int .i64 k)∧0≤k∧k≤63:=by
 have hj:x % n<ks.length:=by rw [h.len];exact Nat.mod_lt _ h.pos
 have hl:ks[x % n]? = some (ks[x % n]'hj):=List.getElem?_eq_getElem _
 have hm:(ks.map fun x=>Value.int .i64 x)[x % n]? = some (.int .i64 (ks[x % n]'hj)):=by rw [List.getElem?_map,hl];rfl
 obtain ⟨b,o,e,hc⟩:=h.cs fun e=>by rw [e]at hm;cases hm
 have:=h.ok _ (List.getElem_mem hj)
 exact ⟨b,o,_,e,hc _ _ hm,this.1,this.2⟩
structure Rl (lo:Nat) (w:World) (v:Value) (rs:List Ru):Prop where
 row:zO 141 7 lo w v rs.length (rs.flatMap Ru.cells)
 ok:∀ r∈rs,r.Ok w
theorem Rl.nil (lo:Nat) (w:World):Rl lo w (.slice none 0 0) []:=⟨⟨rfl,.inl ⟨rfl,rfl⟩⟩,fun x h=>by cases h⟩
def Cg (w:World) (e:Ending) (w2:World):Prop:=∃ v rs,e = .returned v∧Rl w.heap.size w2 v rs∧rs.length≤6∧Grown w w2
theorem iW {w wx:World}{b k:Nat}{v:Value} (g:Grown w wx) (h:w.heap.size≤b):Grown w (wx.setCell ⟨b,k,none⟩ v):=by
 refine ⟨fun c hc=>?_,?_,g.tape,g.os,g.output⟩
 ·unfold World.setCell
  rw [Array.getElem?_modify,if_neg (by show ¬ b=c;omega)]
  exact g.old c hc
 ·unfold World.setCell
  exact Nat.le_trans g.size (Nat.le_of_eq Array.size_modify.symm)
theorem px {w:World}{b k c:Nat}{v:Value} (hn:c≠b):(w.setCell ⟨b,k,none⟩ v).heap[c]? = w.heap[c]?:=by
 unfold World.setCell
 rw [Array.getElem?_modify,if_neg (by show ¬ b=c;omega)]
theorem Cs.pz {w:World}{p:Option Addr}{b k:Nat}{us:List Value}{v:Value} (h:Cs w p us) (hn:∀ a,p=some a→a.block≠b):Cs (w.setCell ⟨b,k,none⟩ v) p us:=fun hu=>by
 obtain ⟨b',o,rfl,hc⟩:=h hu
 have hb:b'≠b:=hn _ rfl
 refine ⟨b',o,rfl,fun j u hj=>?_⟩
 rw [World.cell?_setCell_other _ _ _ _ (by intro e;have e2:b'=b∨b=b':=(by first | exact .inl (congrArg Addr.block e) | exact .inr (congrArg Addr.block e));omega)]
 exact hc j u hj
theorem Cs.same {w w2:World}{p:Option Addr}{us:List Value} (h:Cs w p us) (hn:∀ a,p=some a→w2.heap[a.block]? = w.heap[a.block]?):Cs w2 p us:=fun hu=>by
 obtain ⟨b',o,rfl,hc⟩:=h hu
 refine ⟨b',o,rfl,fun j u hj=>?_⟩
 have hh:w2.heap[b']? = w.heap[b']?:=hn ⟨b',o,none⟩ rfl
 rw [World.cell?_of_block (a:=⟨b',o+j,none⟩) hh]
 exact hc j u hj
theorem Ru.Ok.same {w w2:World}{r:Ru} (h:r.Ok w) (hn:∀ a,r.p=some a→w2.heap[a.block]? = w.heap[a.block]?):r.Ok w2:=⟨h.cs.same hn,h.len,h.few,h.ok,h.lg0,h.lg1,fun a e=>by rw [hn a e];exact h.ty a e⟩
theorem Ru.Ok.set {w:World}{r:Ru}{b k:Nat}{v:Value} (h:r.Ok w) (hn:∀ a,r.p=some a→a.block≠b):r.Ok (w.setCell ⟨b,k,none⟩ v):=h.same fun a e=>px (hn a e)
theorem Ru.Ok.wrote {w w2:World}{r:Ru}{lo n:Nat}{v:Value}{vs:List Value} (h:r.Ok w) (k:qF v w w2) (hv:zO 141 7 lo w v n vs):r.Ok w2:=h.same fun a e=>by
 obtain ⟨arr,fz,hh⟩:=h.ty a e
 refine k.qA _ (Array.getElem?_eq_some_iff.1 hh).1 fun q n' m' e2 hq=>?_
 rcases hv.ex with ⟨_,e3⟩ | ⟨x,e3,⟨arr2,fz2,h2,_⟩,_⟩
 ·rw [e3]at e2;cases e2
 ·rw [e3]at e2
  cases e2
  have hq:x.1=a.block:=hq
  rw [hq,hh]at h2
  cases h2
theorem Rl.grown {lo:Nat}{w w2:World}{v:Value}{rs:List Ru} (h:Rl lo w v rs) (g:Grown w w2):Rl lo w2 v rs:=⟨h.row.grown g,fun r hr=>(h.ok r hr).grown g⟩
theorem Rl.push {lo:Nat}{w w2:World}{v v2:Value}{rs:List Ru}{n:Nat}{r:Ru} (h:zO 141 7 lo w2 v2 n (rs.flatMap Ru.cells++r.cells)) (hn:n=rs.length+1) (h0:Rl lo w v rs) (k:qF v w w2) (hr:r.Ok w):Rl lo w2 v2 (rs++[r]):=by
 subst hn
 refine ⟨?_,fun y hy=>?_⟩
 ·rw [List.flatMap_append,List.flatMap_singleton,List.length_append]
  exact h
 ·rcases List.mem_append.1 hy with hy | hy
  ·exact (h0.ok y hy).wrote k h0.row
  ·rw [List.mem_singleton.1 hy];exact hr.wrote k h0.row
theorem Fi {r:Bool}{a b c d e:Int}{p:Option Addr}{n m:Nat}:∀ u∈[Value.bool r,.int .i64 a,.int .i64 b,.int .u64 c,.int .u64 d,.slice p n m,.int .i64 e],u.oneCell'=true:=by
 intro u hu
 simp at hu
 rcases hu with rfl | rfl | rfl | rfl | rfl | rfl | rfl<;>rfl
theorem pk (w:World) (a b c d:Int):Cs (w.alloc (Obj.cells #[.int .i64 a,.int .i64 b,.int .i64 c,.int .i64 d] 147)) (some ⟨w.heap.size,0,none⟩) ([(a,b),(c,d)].flatMap kt):=fun _=>⟨_,_,rfl,fun j u hj=>by
 have:=XY w (arr:=#[.int .i64 a,.int .i64 b,.int .i64 c,.int .i64 d]) (t:=147) (us:=[(a,b),(c,d)].flatMap kt) rfl j u hj
 rwa [Addr.add_lit]at this⟩
theorem Ct {lo:Nat}{w:World}{v:Value}{o:List (Int×Int)} (h:Sp lo w v o) (few:o.length≤3):∃ p c,v = .slice p o.length c∧(∀ a,p=some a→lo≤a.block)∧∀ rev adm tgt yes no lg,0≤lg→lg≤30000→Ru.Ok w ⟨rev,adm,tgt,yes,no,p,o.length,c,lg,o⟩:=by
 obtain ⟨p,c,e,_,hc,hb⟩:=ju h.row
 refine ⟨p,c,e,hb,fun rev adm tgt yes no lg h0 h1=>⟨hc,rfl,few,h.ok,h0,h1,fun a ha=>?_⟩⟩
 subst e
 have ha:p=some a:=ha
 subst ha
 rcases h.row.ex with ⟨_,e⟩ | ⟨x,e,⟨arr,fz,hh,_⟩,_⟩
 ·cases e
 ·cases e
  exact ⟨arr,fz,hh⟩
theorem Cb {w:World}{b3:Nat} (h:zx Tryz.prog w (b3,0,0) 147 (kt (0,30000))) (rev:Bool) (adm tgt yes no lg:Int) (h0:0≤lg) (h1:lg≤30000):Ru.Ok w ⟨rev,adm,tgt,yes,no,some ⟨b3,0,none⟩,1,1,lg,[(0,30000)]⟩:=by
 refine ⟨fun _=>⟨b3,0,rfl,fun j u hj=>TR.cell_of_row h hj⟩,rfl,by show 1≤3;omega,fun x hx=>?_,h0,h1,fun a ha=>?_⟩
 ·rw [List.mem_singleton.1 hx];decide
 ·cases ha
  obtain ⟨arr,fz,hh,_⟩:=h
  exact ⟨arr,fz,hh⟩
structure RSt (w0 wx:World) (bR:Nat) (rev:Bool) (adm tgt yes no:Int) (p:Option Addr) (l c:Nat) (lg:Int) (o:List (Int×Int)):Prop where
 g:Grown w0 wx
 hb:w0.heap.size≤bR
 row:zx Tryz.prog wx (bR,0,0) 141 [.bool rev,.int .i64 adm,.int .i64 tgt,.int .u64 yes,.int .u64 no,.slice p l c,.int .i64 lg]
 ok:∀ rev adm tgt yes no lg,0≤lg→lg≤30000→Ru.Ok wx ⟨rev,adm,tgt,yes,no,p,l,c,lg,o⟩
 ne:∀ a,p=some a→a.block≠bR
section
variable {w0 wx:World}{bR:Nat}{rev:Bool}{adm tgt yes no:Int}{p:Option Addr}{l c:Nat}{lg:Int}{o:List (Int×Int)}
theorem RSt.grown {wy:World} (h:RSt w0 wx bR rev adm tgt yes no p l c lg o) (g:Grown wx wy):RSt w0 wy bR rev adm tgt yes no p l c lg o:=⟨h.g.trans' g,h.hb,zk g h.row,fun a b c d e f h0 h1=>(h.ok a b c d e f h0 h1).grown g,h.ne⟩
theorem RSt.set (h:RSt w0 wx bR rev adm tgt yes no p l c lg o) (x:Int):RSt w0 (wx.setCell ⟨bR,2,none⟩ (.int .i64 x)) bR rev adm x yes no p l c lg o∧RSt w0 (wx.setCell ⟨bR,1,none⟩ (.int .i64 x)) bR rev x tgt yes no p l c lg o∧RSt w0 (wx.setCell ⟨bR,3,none⟩ (.int .u64 x)) bR rev adm tgt x no p l c lg o∧RSt w0 (wx.setCell ⟨bR,4,none⟩ (.int .u64 x)) bR rev adm tgt yes x p l c lg o∧RSt w0 (wx.setCell ⟨bR,6,none⟩ (.int .i64 x)) bR rev adm tgt yes no p l c x o:=by
 have ok:∀ k v rev adm tgt yes no lg,0≤lg→lg≤30000→Ru.Ok (wx.setCell ⟨bR,k,none⟩ v) ⟨rev,adm,tgt,yes,no,p,l,c,lg,o⟩:=fun k v a b c d e f h0 h1=>(h.ok a b c d e f h0 h1).set h.ne
 have g:∀ k v,Grown w0 (wx.setCell ⟨bR,k,none⟩ v):=fun k v=>iW h.g h.hb
 exact ⟨⟨g _ _,h.hb,zD h.row (k:=2) (show 2<7 by omega),ok _ _,h.ne⟩,⟨g _ _,h.hb,zD h.row (k:=1) (show 1<7 by omega),ok _ _,h.ne⟩,⟨g _ _,h.hb,zD h.row (k:=3) (show 3<7 by omega),ok _ _,h.ne⟩,⟨g _ _,h.hb,zD h.row (k:=4) (show 4<7 by omega),ok _ _,h.ne⟩,⟨g _ _,h.hb,zD h.row (k:=6) (show 6<7 by omega),ok _ _,h.ne⟩⟩
theorem RSt.when {wy:World}{v5:Value}{o5:List (Int×Int)}{lo:Nat} (h:RSt w0 wx bR rev adm tgt yes no p l c lg o) (g:Grown wx wy) (hs:Sp lo wy v5 o5) (few:o5.length≤3) (hlo:wx.heap.size≤lo):∃ p5 c5,v5 = .slice p5 o5.length c5∧RSt w0 (wy.setCell ⟨bR,5,none⟩ (.slice p5 o5.length c5)) bR rev adm tgt yes no p5 o5.length c5 lg o5:=by
 obtain ⟨p5,c5,rfl,hb5,ok5⟩:=Ct hs few
 have hR:bR<wx.heap.size:=zx.lt h.row
 have ne:∀ a,p5=some a→a.block≠bR:=fun a e=>by have:=hb5 a e;omega
 exact ⟨p5,c5,rfl,iW (h.g.trans' g) h.hb,h.hb,zD (zk g h.row) (k:=5) (show 5<7 by omega),fun a b c d e f h0 h1=>(ok5 a b c d e f h0 h1).set ne,ne⟩
theorem RSt.cells (h:RSt w0 wx bR rev adm tgt yes no p l c lg o):(wx.cell? ⟨bR,0,none⟩=some (.bool rev)∧wx.cell? ⟨bR,1,none⟩=some (.int .i64 adm)∧wx.cell? ⟨bR,2,none⟩=some (.int .i64 tgt)∧wx.cell? ⟨bR,3,none⟩=some (.int .u64 yes)∧wx.cell? ⟨bR,4,none⟩=some (.int .u64 no)∧wx.cell? ⟨bR,5,none⟩=some (.slice p l c)∧wx.cell? ⟨bR,6,none⟩=some (.int .i64 lg)) ∧
  wx.frozen? ⟨bR,0,none⟩=false∧wx.frozen? ⟨bR,1,none⟩=false∧wx.frozen? ⟨bR,2,none⟩=false∧wx.frozen? ⟨bR,3,none⟩=false∧wx.frozen? ⟨bR,4,none⟩=false∧wx.frozen? ⟨bR,5,none⟩=false∧wx.frozen? ⟨bR,6,none⟩=false:=
 ⟨aP h.row,(zc h.row rfl).2,(zc h.row rfl).2,(zc h.row rfl).2,(zc h.row rfl).2,(zc h.row rfl).2,(zc h.row rfl).2,(zc h.row rfl).2⟩
theorem RSt.new {b3:Nat} (g:Grown w0 wx) (hb:w0.heap.size≤bR) (hr:zx Tryz.prog wx (bR,0,0) 141 [.bool rev,.int .i64 0,.int .i64 0,.int .u64 0,.int .u64 0,.slice (some ⟨b3,0,none⟩) 1 1,.int .i64 0]) (hc:zx Tryz.prog wx (b3,0,0) 147 (kt (0,30000))) (hne:b3≠bR):RSt w0 wx bR rev 0 0 0 0 (some ⟨b3,0,none⟩) 1 1 0 [(0,30000)]:=
 ⟨g,hb,hr,fun a b c d e f h0 h1=>Cb hc a b c d e f h0 h1,fun a e=>by cases e;exact hne⟩
end
end MK
end
end Go.AEv
