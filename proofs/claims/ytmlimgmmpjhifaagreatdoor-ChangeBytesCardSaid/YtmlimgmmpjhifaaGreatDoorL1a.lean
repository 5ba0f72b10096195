/- Changes, their encodings and texts: calls and runs (L1a). Conditions: those of each theorem. -/
import Derived.Test.YtmlimgmmpjhifaaGreatDoorH0x0
import Derived.Deep.MidRow
import Derived.Deep.RegionHeld3
import Derived.Deep.DrawnRows
import Derived.Test.YtmlimgmmpjhifaaGreatDoorH0x1
set_option maxHeartbeats 8000000
set_option maxRecDepth 100000
set_option linter.all false
namespace Go.AEv
section
open Go Go.Proofs TR
namespace MK
open Go.AEv.GT (zO)
structure Ru where
 rev:Bool
 adm:Int
 tgt:Int
 yes:Int
 no:Int
 p:Option Addr
 n:Nat
 c:Nat
 lg:Int
 l:List (Int×Int)
def Ru.cells (r:Ru):List Value:=[.bool r.rev,.int .i64 r.adm,.int .i64 r.tgt,.int .u64 r.yes,.int .u64 r.no,.slice r.p r.n r.c,.int .i64 r.lg]
structure Ru.Ok (w:World) (r:Ru):Prop where
 cs:Cs w r.p (r.l.flatMap kt)
 len:r.l.length=r.n
 few:r.n≤3
 ok:DOk r.l
 lg0:0≤r.lg
 lg1:r.lg≤30000
 ty:∀ a,r.p=some a→∃ arr fz,w.heap[a.block]? = some (.cells arr 147 fz)
theorem Ru.Ok.grown {w w2:World}{r:Ru} (h:r.Ok w) (g:Grown w w2):r.Ok w2:=⟨h.cs.grown g,h.len,h.few,h.ok,h.lg0,h.lg1,fun a e=>by obtain ⟨arr,fz,k⟩:=h.ty a e;exact ⟨arr,fz,(g.old _ (Array.getElem?_eq_some_iff.1 k).1).trans k⟩⟩
theorem XN:∀ (rs:List Ru) {j k:Nat}{r:Ru},rs[j]? = some r→k<7→(rs.flatMap Ru.cells)[j*7+k]? = r.cells[k]?
 | [],j,k,r,h,_=>by simp at h
 | y::rs,0,k,r,h,hk=>by
  simp at h;subst h
  rw [List.flatMap_cons,Nat.zero_mul,Nat.zero_add,List.getElem?_append_left (by show k<7;exact hk)]
 | y::rs,j+1,k,r,h,hk=>by
  have:=XN rs (j:=j) (k:=k) (r:=r) (by simpa using h) hk
  rw [List.flatMap_cons,show (j+1)*7+k=7+(j*7+k) by omega,List.getElem?_append_right (by show 7≤7+(j*7+k);omega),← this]
  congr 1
  show 7+(j*7+k)-7=_
  omega
structure RuL (w:World) (p:Option Addr) (n:Nat) (rs:List Ru):Prop where
 cs:Cs w p (rs.flatMap Ru.cells)
 len:rs.length=n
 few:n≤6
 ok:∀ r∈rs,r.Ok w
theorem RuL.grown {w w2:World}{p:Option Addr}{n:Nat}{rs:List Ru} (h:RuL w p n rs) (g:Grown w w2):RuL w2 p n rs:=⟨h.cs.grown g,h.len,h.few,fun r hr=>(h.ok r hr).grown g⟩
theorem RuL.at {w:World}{p:Option Addr}{n:Nat}{rs:List Ru} (h:RuL w p n rs) {j:Nat} (hj:j<n):∃ (b o:Nat) (r:Ru),p=some ⟨b,o,none⟩∧r.Ok w∧∀ k v,r.cells[k]? = some v→w.cell? ⟨b,o+j*7+k,none⟩=some v:=by
 have hl:rs[j]? = some (rs[j]'(by rw [h.len];exact hj)):=List.getElem?_eq_getElem _
 have h0:=XN rs hl (k:=0) (by omega)
 obtain ⟨b,o,e,hc⟩:=h.cs fun e=>by rw [e]at h0;cases h0
 refine ⟨b,o,rs[j]'(by rw [h.len];exact hj),e,h.ok _ (List.getElem_mem _),fun k v hv=>?_⟩
 have hk:k<7:=(List.getElem?_eq_some_iff.1 hv).1
 have:=XN rs hl hk
 rw [Nat.add_assoc]
 exact hc _ _ (this.trans hv)
theorem fI {w : World} {p : Option Addr} {n c : Nat} {rs : List Ru} (h : RuL w p n rs) {q : Option Addr} {m d : Nat} {ss : List ByteArray} (hs : Jb w q m ss) : Calls Tryz.prog 24 #[.slice p n c, .slice q m d] w (tC 9000 w) := by
  have H := Lib.hid h
  have HS := Lib.hid hs
  clear h hs
  go_enter Tryz.func24, Tryz.ntmps24
  go_wp2
  go_loopg [5, 11] n (fun g s i wr => Grown w wr ∧ ∃ (j : Nat) (t : ByteArray), j + g = n ∧ i = .int .i64 j ∧ s = .string t ∧ t.size ≤ 1500 * j)
  case atStart => exact ⟨RD.zL _, 0, _, by omega, rfl, rfl, by decide⟩
  case round =>
    obtain ⟨hg, j, t, hj, rfl, rfl, ht⟩ := hrel
    have HG := Lib.hid hg
    clear hg
    cases gk with
    | zero =>
      have hjm : ¬ ((j : Int) < (n : Int)) := by omega
      go_wp2
      go_ret
      exact ⟨t, rfl, by have := H.out.few; omega, HG.out⟩
    | succ g =>
      have hjm : (j : Int) < (n : Int) := by omega
      obtain ⟨b, o, r, rfl, hr, hc⟩ := (H.out.grown HG.out).at (j := j) (by omega)
      have HR := Lib.hid hr
      have c0 := hc 0 _ rfl
      have c1 := hc 1 _ rfl
      have c2 := hc 2 _ rfl
      have c3 := hc 3 _ rfl
      have c4 := hc 4 _ rfl
      have c5 := hc 5 _ rfl
      have c6 := hc 6 _ rfl
      rw [Nat.add_zero] at c0
      clear hc hr
      have hw64 : RowKit.wrap64 ((j : Int) + 1) = (j : Int) + 1 := by unfold RowKit.wrap64; have := H.out.few; omega
      have hn6 := H.out.few
      go_wp2_with (first
        | (go_at_call 70; (with_reducible refine (nC (HR.out.cs.grown (za _ _)) HR.out.len HR.out.few HR.out.ok (HS.out.grown (HG.out.trans' (za _ _))) ⟨HR.out.lg0, HR.out.lg1⟩).mono ?_); rintro e w3 ⟨s3, rfl, hs3, hg⟩; have G3 := Lib.hid ((HG.out.trans' (za _ _)).trans' hg); clear hg))
      all_goals first
        | (go_ret
           exact ⟨_, rfl, by decide, G3.out⟩)
        | (go_roundg g
           case measure => omega
           case rel => exact ⟨G3.out, j + 1, _, by omega, (by first | rfl | (rw [hw64]; rfl)), rfl, by (try simp only [ByteArray.size_append]); omega⟩)
end MK
end
section
open Go Go.Proofs TR
namespace MK
open Go.AEv.GT (zO)
structure ByL (w:World) (p:Option Addr) (n:Nat) (L:List Nat):Prop where
 cs:Cs w p (L.map fun x=>.int .u8 (x:Nat))
 len:L.length=n
 few:n≤9223372036854775807
 lt:∀ x∈L,x<256
theorem ByL.grown {w w2:World}{p:Option Addr}{n:Nat}{L:List Nat} (h:ByL w p n L) (g:Grown w w2):ByL w2 p n L:=⟨h.cs.grown g,h.len,h.few,h.lt⟩
def atV (L:List Nat) (i:Int):Nat:=L.getD i.toNat 0
theorem ByL.KQ {w:World}{p:Option Addr}{n:Nat}{L:List Nat} (h:ByL w p n L) (i:Int):atV L i<256:=by
 unfold atV
 rw [List.getD_eq_getElem?_getD]
 cases hx:L[i.toNat]? with
 | none=>exact Nat.zero_lt_succ _
 | some x=>exact h.lt x (List.mem_of_getElem? hx)
theorem ByL.at {w:World}{p:Option Addr}{n:Nat}{L:List Nat} (h:ByL w p n L) {j:Nat} (hj:j<n):∃ b o,p=some ⟨b,o,none⟩∧w.cell? ⟨b,o+j,none⟩=some (.int .u8 (atV L j:Nat)):=by
 have hl:L[j]? = some (L[j]'(by rw [h.len];exact hj)):=List.getElem?_eq_getElem _
 have hm:(L.map fun x=>Value.int .u8 (x:Nat))[j]? = some (.int .u8 ((L[j]'(by rw [h.len];exact hj):Nat):Int)):=by rw [List.getElem?_map,hl];rfl
 obtain ⟨b,o,e,hc⟩:=h.cs fun e=>by rw [e]at hm;cases hm
 refine ⟨b,o,e,?_⟩
 rw [hc j _ hm]
 unfold atV
 rw [List.getD_eq_getElem?_getD,show ((j:Int)).toNat=j by omega,hl]
 rfl
theorem Vx {w:World}{p:Option Addr}{n c:Nat}{L:List Nat} (h:ByL w p n L) {i:Int} (h0:0≤i):Calls Tryz.prog 72 #[.slice p n c,.int .i64 i] w (Ret (.int .i64 (atV L i:Nat)) w):=by
 have H:=Lib.hid h
 clear h
 obtain ⟨j,rfl⟩:∃ j:Nat,i=j:=⟨i.toNat,by omega⟩
 by_cases hj:(j:Int)<n
 ·obtain ⟨b,o,rfl,hc⟩:=H.out.at (j:=j) (by omega)
  have hlt:((atV L j:Nat):Int)<256:=by have:=H.out.KQ (j:Int);omega
  go_enter Tryz.func72,Tryz.ntmps72
  go_wp2
  all_goals (go_ret;exact ret (by first | rfl | simp))
 ·have hz:atV L (j:Int)=0:=by
   unfold atV
   rw [List.getD_eq_getElem?_getD,List.getElem?_eq_none (by have:=H.out.len;omega)]
   rfl
  rw [hz]
  go_enter Tryz.func72,Tryz.ntmps72
  go_wp2
  go_ret
  exact ret rfl
end MK
end
section
open Go Go.Proofs TR
namespace MK
open Go.AEv.GT (zO)
structure St (lo:Nat) (w:World) (v:Value) (ss:List ByteArray):Prop where
 row:zO 9 1 lo w v ss.length (ss.map Value.string)
 ok:∀ s∈ss,s.size≤12
theorem St.grown {lo:Nat}{w w2:World}{v:Value}{ss:List ByteArray} (h:St lo w v ss) (g:Grown w w2):St lo w2 v ss:=⟨h.row.grown g,h.ok⟩
theorem St.nil (lo:Nat) (w:World):St lo w (.slice none 0 0) []:=⟨⟨rfl,.inl ⟨rfl,rfl⟩⟩,fun x h=>by cases h⟩
theorem St.push {lo:Nat}{w:World}{v:Value}{ss:List ByteArray}{n:Nat}{s:ByteArray} (h:zO 9 1 lo w v n (ss.map Value.string++[.string s])) (hn:n=ss.length+1) (ok:∀ s∈ss,s.size≤12) (hs:s.size≤12):St lo w v (ss++[s]):=by
 subst hn
 refine ⟨?_,fun y hy=>?_⟩
 ·rw [List.map_append,List.length_append]
  exact h
 ·rcases List.mem_append.1 hy with hy | hy
  ·exact ok y hy
  ·rw [List.mem_singleton.1 hy];exact hs
theorem St.ph {lo:Nat}{w:World}{v:Value}{ss:List ByteArray} (h:St lo w v ss) (few:ss.length≤1000):∃ p c,v = .slice p ss.length c∧Jb w p ss.length ss:=by
 obtain ⟨p,c,e,_,hc,_⟩:=ju h.row
 exact ⟨p,c,e,rfl,few,hc,h.ok⟩
def tD (n:Nat) (w:World) (e:Ending) (w2:World):Prop:=∃ v ss,e = .returned v∧St w.heap.size w2 v ss∧ss.length=n∧Grown w w2
theorem fX {w:World}{s:ByteArray}{n:Nat} (hs:s.size≤5) (few:n≤9):Calls Tryz.prog 26 #[.string s,.int .i64 n] w (tD n w):=by
 go_enter Tryz.func26,Tryz.ntmps26
 go_wp2
 go_loopg [5,6] n (fun g out i wr=>Grown w wr∧∃ (j:Nat) (ss:List ByteArray),j+g=n+1∧1≤j∧i = .int .i64 j∧St w.heap.size wr out ss∧ss.length+1=j)
 case atStart=>exact ⟨RD.zL _,1,[],by omega,by omega,rfl,St.nil _ _,rfl⟩
 case round=>
  obtain ⟨hg,j,ss,hj,h1,rfl,h2,h3⟩:=hrel
  have HG:=Lib.hid hg
  have HS:=Lib.hid h2
  clear hg h2
  cases gk with
  | zero=>
   have hjm:¬ ((j:Int)≤n):=by omega
   go_wp2
   go_ret
   exact ⟨_,ss,rfl,HS.out,by omega,HG.out⟩
  | succ g=>
   have hjm:(j:Int)≤n:=by omega
   have hw64:RowKit.wrap64 ((j:Int)+1)=(j:Int)+1:=by unfold RowKit.wrap64;omega
   have hr:=fun w=>Zm w (i:=(j:Int) % 10) (by omega) (by omega)
   have hd:=kj ((j:Int) % 10)
   have few2:RowKit.Hid (ss.length+1≤100000):=Lib.hid (by omega)
   go_wp2_with (first
    | (at_builtin;refine GT.YB _ GT.tyT _ _ rfl rfl (HS.out.row.grown (za _ _)) few2.out Nat.one_pos (HG.out.trans' (za _ _)).size rfl (us:=[.string (s++W4 ((j:Int) % 10))]) rfl (XY _ rfl) (by intro u hu;rw [List.mem_singleton.1 hu];rfl) ?_;intro v' w4 hr hq hw;have R4:=Lib.hid hr;have G4:=Lib.hid (GT.jq (HG.out.trans' (za _ _)) (HS.out.row.grown (za _ _)) hw);clear hr hq hw))
   go_roundg g
   case measure=>omega
   case rel=>exact ⟨G4.out,j+1,ss++[s++W4 ((j:Int) % 10)],by omega,by omega,(by first | rfl | (rw [hw64];rfl)),St.push R4.out rfl HS.out.ok (by rw [ByteArray.size_append];omega),by rw [List.length_append];show ss.length+1+1=j+1;omega⟩
end MK
end
section
open Go Go.Proofs TR
namespace MK
open Go.AEv.GT (zO)
open RD (qe)
structure Src (w:World) (s:Nat) (p:Option Addr) (n c:Nat) (L:List Nat) (K:Nat):Prop where
 bs:ByL w p n L
 sep:∀ a,p=some a→a.block≠s
 c0:w.cell? ⟨s,0,none⟩=some (.slice p n c)
 c1:∃ k:Nat,w.cell? ⟨s,1,none⟩=some (.int .i64 k)∧k≤K
 fz:w.frozen? ⟨s,1,none⟩=false
theorem qC {w:World}{a:Addr}{s k:Nat}{u v:Value} (h:w.cell? a=some u) (hn:a.block≠s):(w.setCell ⟨s,k,none⟩ v).cell? a=some u:=by
 have hh:(w.setCell ⟨s,k,none⟩ v).heap[a.block]? = w.heap[a.block]?:=by
  unfold World.setCell
  rw [Array.getElem?_modify,if_neg (by show ¬ s=a.block;omega)]
 rw [World.cell?_of_block (a:=a) hh]
 exact h
theorem Cs.xh {w:World}{p:Option Addr}{us:List Value}{s k:Nat}{v:Value} (h:Cs w p us) (hs:∀ a,p=some a→a.block≠s):Cs (w.setCell ⟨s,k,none⟩ v) p us:=fun hu=>by
 obtain ⟨b',o,rfl,hc⟩:=h hu
 exact ⟨b',o,rfl,fun j u hj=>qC (hc j u hj) (hs ⟨b',o,none⟩ rfl)⟩
theorem Src.step {w:World}{s:Nat}{p:Option Addr}{n c:Nat}{L:List Nat}{K k:Nat} (h:Src w s p n c L K) (hk:k≤K) (hc:∃ u,w.cell? ⟨s,1,none⟩=some u):Src (w.setCell ⟨s,1,none⟩ (.int .i64 ((k:Int)+1))) s p n c L (K+1):=by
 obtain ⟨u,hu⟩:=hc
 exact ⟨⟨h.bs.cs.xh h.sep,h.bs.len,h.bs.few,h.bs.lt⟩,h.sep,by rw [World.cell?_setCell_other _ _ _ _ (by simp)];exact h.c0,⟨k+1,by rw [World.cell?_setCell_same _ _ _ hu];rfl,by omega⟩,by rw [World.frozen?_setCell];exact h.fz⟩
theorem qf (w:World) (q:Nat):Grown w (w.drewN q):=⟨fun _ _=>rfl,Nat.le_refl _,rfl,rfl,rfl⟩
theorem Src.drewN {w:World}{s:Nat}{p:Option Addr}{n c:Nat}{L:List Nat}{K:Nat} (h:Src w s p n c L K) (q:Nat):Src (w.drewN q) s p n c L K:=⟨h.bs.grown (qf _ _),h.sep,h.c0,h.c1,h.fz⟩
def DZ (s:Nat) (p:Option Addr) (n c:Nat) (L:List Nat) (K:Nat) (w:World) (e:Ending) (w2:World):Prop:=∃ x:Nat,x<256∧e = .returned (.int .i64 x)∧Src w2 s p n c L (K+1)∧qe s w w2
theorem Zj {w:World}{s:Nat}{p:Option Addr}{n c:Nat}{L:List Nat}{K:Nat} (h:Src w s p n c L K) (hK:K≤1000000000):Calls Tryz.prog 187 #[.pointer (some ⟨s,0,none⟩)] w (DZ s p n c L K w):=by
 have H:=Lib.hid h
 clear h
 obtain ⟨k,hk,hkK⟩:=H.out.c1
 have f1:=H.out.fz
 have c0:=H.out.c0
 have hS:=Lib.hid (H.out.step hkK ⟨_,hk⟩)
 by_cases hlt:k<n
 ·obtain ⟨b,o,rfl,hc⟩:=H.out.bs.at hlt
  have hbs:b≠s:=H.out.sep _ rfl
  have hc2:∀ v,(w.setCell ⟨s,1,none⟩ v).cell? ⟨b,o+k,none⟩=some (.int .u8 (atV L k:Nat)):=fun v=>qC hc hbs
  have hlt2:(k:Int)<n:=by omega
  have ha:=H.out.bs.KQ (k:Int)
  have hx:¬ ((n:Int)<(k:Int)+1):=by omega
  go_enter Tryz.func187,Tryz.ntmps187
  go_wp2_with fail
  go_quiet (fail)
  go_wp2_with fail
  go_quiet (fail)
  go_wp2_with fail
  go_ret
  exact ⟨atV L k,ha,by first | rfl | simp,(hS.out.drewN _).drewN _,((RD.kY s 1 _ w).trans (RD.qe.qu (qf _ _))).trans (RD.qe.qu (qf _ _))⟩
 ·have hx:(n:Int)<(k:Int)+1:=by omega
  go_enter Tryz.func187,Tryz.ntmps187
  go_wp2_with fail
  go_quiet (fail)
  go_wp2_with fail
  go_ret
  exact ⟨0,by decide,rfl,hS.out.drewN _,(RD.kY s 1 _ w).trans (RD.qe.qu (qf _ _))⟩
end MK
end
section
open Go Go.Proofs TR
namespace MK
open Go.AEv.GT (zO)
open RD (qe)
def yi (op:Int):Nat:=if 8≤op then 2 else if op=7 then 1 else 0
structure Fop (op n:Int) (k m:Nat):Prop where
 lo:1≤op
 hi:op≤16
 n0:0≤n
 n1:n≤3
 few:k≤4
 one:op=4∨op=6→0<k
 args:m=yi op
def FT (K : Value → Prop) (t u : TypeId) (lo : Nat) : Nat → World → Value → Prop
  | 0, _, _ => False
  | d + 1, w, v => ∃ (op n : Int) (rv av : Value) (rs : List Value) (ch : List (List Value)), v = .agg #[.int .i64 op, .int .i64 n, rv, av] ∧ Fop op n rs.length ch.length ∧
      zO t 1 lo w rv rs.length rs ∧ (∀ r ∈ rs, K r) ∧ zO u 4 lo w av ch.length ch.flatten ∧ ∀ a ∈ ch, a.length = 4 ∧ FT K t u lo d w (.agg a.toArray)
def iJ (lo:Nat) (w w2:World):Prop:=∀ c,c<w.heap.size→lo≤c→w2.heap[c]? = w.heap[c]?
theorem zU {lo:Nat}{w w2:World} (g:Grown w w2):iJ lo w w2:=fun c hc _=>g.old c hc
theorem X2 {lo s:Nat}{w w2:World} (k:qe s w w2) (hs:s<lo):iJ lo w w2:=fun c hc hl=>k.old c hc (by omega)
theorem zO.qA {et:TypeId}{sz lo:Nat}{w w2:World}{v:Value}{n:Nat}{vs:List Value} (h:zO et sz lo w v n vs) (k:iJ lo w w2):zO et sz lo w2 v n vs:=
 ⟨h.len,h.ex.imp id fun ⟨x,e,r,l⟩=>⟨x,e,zV r (k x.1 (zx.lt r) l),l⟩⟩
theorem FT.qA {K:Value→Prop}{t u:TypeId}{lo:Nat}:∀ (d:Nat) {w w2:World}{v:Value},FT K t u lo d w v→iJ lo w w2→FT K t u lo d w2 v
 | 0,_,_,_,h,_=>h.elim
 | d+1,w,w2,v,h,k=>by
  obtain ⟨op,n,rv,av,rs,ch,e,hf,hr,hk,ha,hs⟩:=h
  exact ⟨op,n,rv,av,rs,ch,e,hf,zO.qA hr k,hk,zO.qA ha k,fun a m=>⟨(hs a m).1,FT.qA d (hs a m).2 k⟩⟩
theorem FT.lower {K:Value→Prop}{t u:TypeId}{lo lo':Nat} (hl:lo'≤lo):∀ (d:Nat) {w:World}{v:Value},FT K t u lo d w v→FT K t u lo' d w v
 | 0,_,_,h=>h.elim
 | d+1,w,v,h=>by
  obtain ⟨op,n,rv,av,rs,ch,e,hf,hr,hk,ha,hs⟩:=h
  exact ⟨op,n,rv,av,rs,ch,e,hf,hr.lower hl,hk,ha.lower hl,fun a m=>⟨(hs a m).1,FT.lower hl d (hs a m).2⟩⟩
theorem FT.form {K:Value→Prop}{t u:TypeId}{lo d:Nat}{w:World}{v:Value} (h:FT K t u lo d w v):∃ op n p1 n1 c1 p2 n2 c2,v = .agg #[.int .i64 op,.int .i64 n,.slice p1 n1 c1,.slice p2 n2 c2]:=by
 cases d with
 | zero=>exact h.elim
 | succ d=>
  obtain ⟨op,n,rv,av,rs,ch,rfl,hf,hr,hk,ha,hs⟩:=h
  obtain ⟨p1,c1,rfl,_⟩:=ju hr
  obtain ⟨p2,c2,rfl,_⟩:=ju ha
  exact ⟨op,n,p1,_,c1,p2,_,c2,rfl⟩
theorem FT.leaf {K:Value→Prop}{t u:TypeId}{lo d:Nat}{w:World}{op n:Int}{rv:Value}{rs:List Value} (hf:Fop op n rs.length 0) (hr:zO t 1 lo w rv rs.length rs) (hk:∀ r∈rs,K r):FT K t u lo (d+1) w (.agg #[.int .i64 op,.int .i64 n,rv,.slice none 0 0]):=
 ⟨op,n,rv,.slice none 0 0,rs,[],rfl,hf,hr,hk,⟨rfl,.inl ⟨rfl,rfl⟩⟩,fun a m=>by cases m⟩
end MK
end
section
open Go Go.Proofs TR
namespace MK
open Go.AEv.GT (zO)
open RD (qe)
theorem zD {w:World}{b k:Nat}{t:TypeId}{vs:List Value}{v:Value} (h:zx Tryz.prog w (b,0,0) t vs) (hk:k<vs.length):zx Tryz.prog (w.setCell ⟨b,k,none⟩ v) (b,0,0) t (vs.set k v):=by
 obtain ⟨arr,fz,h1,h2,h3,h4,h5⟩:=h
 have h2:0+vs.length+0*_≤arr.size:=h2
 refine ⟨arr.setIfInBounds k v,fz,?_,by rw [Array.size_setIfInBounds,List.length_set];exact h2,fun i hi=>h3 i (by rw [Array.size_setIfInBounds]at hi;exact hi),h4,fun j hj=>?_⟩
 ·unfold World.setCell
  show (w.heap.modify b _)[b]? = _
  rw [Array.getElem?_modify,if_pos rfl]
  show Option.map _ w.heap[b]? = _
  rw [show w.heap[b]? = _ from h1]
  rfl
 ·rw [List.length_set]at hj
  show (arr.setIfInBounds k v)[0+j]? = _
  rw [Array.getElem?_setIfInBounds,List.getElem?_set]
  by_cases e:k=j
  ·subst e
   rw [if_pos (by omega),if_pos rfl,if_pos (by omega),if_pos hk]
  ·rw [if_neg (by omega),if_neg e]
   exact h5 j hj
theorem zn (w:World) {z:Array Value}{t:TypeId}:zx Tryz.prog (w.alloc (.cells z t)) (w.heap.size,0,0) t z.toList:=
 ⟨z,(0,0),heap_alloc_new w _,by rw [Nat.zero_mul];simp,fun i _ h=>by omega,Nat.dvd_zero _,fun j _=>by simp⟩
theorem zc {w:World}{b k:Nat}{t:TypeId}{vs:List Value}{v:Value} (h:zx Tryz.prog w (b,0,0) t vs) (hk:vs[k]? = some v):w.cell? ⟨b,k,none⟩=some v∧w.frozen? ⟨b,k,none⟩=false:=by
 have hc:=TR.cell_of_row h hk
 rw [Nat.zero_add]at hc
 refine ⟨hc,?_⟩
 obtain ⟨arr,fz,h1,h2,h3,h4,h5⟩:=h
 have hk:=(List.getElem?_eq_some_iff.1 hk).1
 have h2:0+vs.length+0*_≤arr.size:=h2
 unfold World.frozen?
 rw [h1]
 have:=h3 k (by omega)
 show (decide (fz.1≤k)&&decide (k<fz.2))=false
 rw [Bool.and_eq_false_iff,decide_eq_false_iff_not,decide_eq_false_iff_not]
 omega
def Ci (v:Value):Prop:=∃ r:Int,v = .int .i64 r∧1≤r∧r≤4
abbrev FI:=FT Ci 3 157
def FP (s:Nat) (p:Option Addr) (n c:Nat) (L:List Nat) (lo d K:Nat) (w:World) (e:Ending) (w2:World):Prop:=∃ v,e = .returned v∧FI lo d w2 v∧Src w2 s p n c L K∧qe s w w2
theorem Src.grown {w w2:World}{s:Nat}{p:Option Addr}{n c:Nat}{L:List Nat}{K:Nat} (h:Src w s p n c L K) (g:Grown w w2):Src w2 s p n c L K:=by
 obtain ⟨k,h1,h2⟩:=h.c1
 exact ⟨h.bs.grown g,h.sep,RD.ze h.c0 g,⟨k,RD.ze h1 g,h2⟩,RD.zE h1 h.fz g⟩
theorem Src.more {w:World}{s:Nat}{p:Option Addr}{n c:Nat}{L:List Nat}{K K2:Nat} (h:Src w s p n c L K) (hk:K≤K2):Src w s p n c L K2:=by
 obtain ⟨k,h1,h2⟩:=h.c1
 exact ⟨h.bs,h.sep,h.c0,⟨k,h1,Nat.le_trans h2 hk⟩,h.fz⟩
theorem zo {w:World}{b k c:Nat}{v:Value} (hn:c≠b):(w.setCell ⟨b,k,none⟩ v).heap[c]? = w.heap[c]?:=by
 unfold World.setCell
 rw [Array.getElem?_modify,if_neg (by show ¬ b=c;omega)]
theorem qt {s b k:Nat}{w wx:World}{v:Value} (o:qe s w wx) (hb:w.heap.size≤b) (hs:b≠s):qe s w (wx.setCell ⟨b,k,none⟩ v):=by
 refine ⟨fun c hc hn=>?_,?_,o.tape,o.os,o.output,fun arr t fz h=>?_⟩
 ·rw [zo (by omega)]
  exact o.old c hc hn
 ·unfold World.setCell
  exact Nat.le_trans o.size (Nat.le_of_eq Array.size_modify.symm)
 ·rw [zo (fun e=>hs e.symm)]
  exact o.ty arr t fz h
theorem yn {s:Nat}{w wx:World} (o:qe s w wx) (ob:Obj):qe s w (wx.alloc ob):=o.trans (RD.qe.qu (za _ _))
theorem Src.of {w w1 W:World}{s:Nat}{p:Option Addr}{n c:Nat}{L:List Nat}{K K1:Nat} (H:Src w s p n c L K) (S:Src w1 s p n c L K1) (o:qe s w W) (hs:W.heap[s]? = w1.heap[s]?):Src W s p n c L K1:=by
 obtain ⟨k,h1,h2⟩:=S.c1
 refine ⟨⟨fun hu=>?_,H.bs.len,H.bs.few,H.bs.lt⟩,H.sep,by rw [World.cell?_of_block (a:=⟨s,0,none⟩) hs];exact S.c0,⟨k,by rw [World.cell?_of_block (a:=⟨s,1,none⟩) hs];exact h1,h2⟩,by rw [World.frozen?_of_block (a:=⟨s,1,none⟩) hs];exact S.fz⟩
 obtain ⟨b,q,rfl,hc⟩:=H.bs.cs hu
 refine ⟨b,q,rfl,fun j u hj=>?_⟩
 have:=hc j u hj
 rw [World.cell?_of_block (a:=⟨b,q+j,none⟩) (o.old b (World.block_lt_of_cell? w _ this) (H.sep _ rfl))]
 exact this
theorem zI {P:Program}{fn:Func}{p:Tmp}{ty:TypeId} (h:fn.results = #[.cell p ty]) (tmps:Array Value) (w:World) (g:Nat) (cs:List Value) (d:TypeDesc)
  (hp:tmps.getD p undef = .pointer (some ⟨g,0,none⟩)) (hc:w.rangeAt g 0 cs) (hu:P.underlying ty=some d) (hd:d.isRow=true) (hi:(P.info? ty).map (·.size)=some cs.length) :
  (results fn tmps).run P w = .ok (.agg cs.toArray) w:=by
 have hp':tmps[p]?.getD undef = .pointer (some ⟨g,0,none⟩):=by simpa using hp
 simp [results,h,hp',asAddr,run_loadVar_mid w g 0 ty cs d hc hu hd hi]
theorem zS {w:World}{b:Nat}{t:TypeId}{vs:List Value} (h:zx Tryz.prog w (b,0,0) t vs):w.rangeAt b 0 vs:=fun j v hj=>by have:=TR.cell_of_row h hj;exact this
theorem under157:Tryz.prog.underlying 157=some (.struct (Tryz.prog.fieldsOf 157)):=by kernel_rfl
theorem q8:(Tryz.prog.info? 157).map (·.size)=some 4:=by kernel_rfl
theorem jG {lo n sz c:Nat}{et:TypeId}{w w2:World}{v:Value}{vs:List Value} (k:qF v w w2) (hv:zO et sz lo w v n vs) (hc:c<w.heap.size) (h:c<lo∨∃ arr t fz,w.heap[c]? = some (.cells arr t fz)∧t≠et):w2.heap[c]? = w.heap[c]?:=
 k.qA c hc fun p m c' e hp=>by
  rcases hv.ex with ⟨_,e'⟩ | ⟨x,e',⟨arr2,fz2,h2,_⟩,hl⟩
  ·rw [e']at e;cases e
  ·rw [e']at e
   cases e
   have hp:x.1=c:=hp
   rcases h with h | ⟨arr,t,fz,h1,ht⟩
   ·omega
   ·rw [hp,h1]at h2
    cases h2
    exact ht rfl
theorem qO {lo n sz:Nat}{et t:TypeId}{w w2:World}{v:Value}{vs us:List Value}{x:Nat×Nat×Nat} (h:zx Tryz.prog w x t us) (k:qF v w w2) (hv:zO et sz lo w v n vs) (ht:t≠et):zx Tryz.prog w2 x t us:=
 zV h (jG k hv (zx.lt h) (.inr (by obtain ⟨arr,fz,h1,_⟩:=h;exact ⟨arr,t,fz,h1,ht⟩)))
theorem V6 {s lo n sz:Nat}{et:TypeId}{w wx w2:World}{v:Value}{vs:List Value} (o:qe s w wx) (k:qF v wx w2) (hv:zO et sz lo wx v n vs) (hlo:w.heap.size≤lo) (hs:s<lo) (hsx:s<wx.heap.size):qe s w w2:=
 ⟨fun c hc hn=>by rw [jG k hv (Nat.lt_of_lt_of_le hc o.size) (.inl (by omega))];exact o.old c hc hn,Nat.le_trans o.size k.size,k.tape.trans o.tape,k.os.trans o.os,k.output.trans o.output,fun arr t fz h=>by
  obtain ⟨arr2,h2⟩:=o.ty arr t fz h
  exact ⟨arr2,(jG k hv hsx (.inl hs)).trans h2⟩⟩
theorem zO.fA {lo n b k:Nat}{w:World}{v u:Value}{vs us:List Value} (h:zO 3 1 lo w v n vs) (hb:zx Tryz.prog w (b,0,0) 157 us):zO 3 1 lo (w.setCell ⟨b,k,none⟩ u) v n vs:=
 ⟨h.len,h.ex.imp id fun ⟨x,e,r,l⟩=>⟨x,e,zV r (zo fun e=>by
  obtain ⟨a1,f1,h1,_⟩:=r
  obtain ⟨a2,f2,h2,_⟩:=hb
  have h2:w.heap[b]? = _:=h2
  rw [e,h2]at h1
  cases h1),l⟩⟩
def km (w:World) (b:Nat) (v0 v1 v2 v3:Value):World:=(((w.setCell ⟨b,0,none⟩ v0).setCell ⟨b,1,none⟩ v1).setCell ⟨b,2,none⟩ v2).setCell ⟨b,3,none⟩ v3
theorem ky {w:World}{b:Nat}{x0 x1 x2 x3 v0 v1 v2 v3:Value} (h:zx Tryz.prog w (b,0,0) 157 [x0,x1,x2,x3]):zx Tryz.prog (km w b v0 v1 v2 v3) (b,0,0) 157 [v0,v1,v2,v3]:=by
 have h1:zx Tryz.prog (w.setCell ⟨b,0,none⟩ v0) (b,0,0) 157 [v0,x1,x2,x3]:=zD h (k:=0) (show 0<4 by omega)
 have h2:zx Tryz.prog ((w.setCell ⟨b,0,none⟩ v0).setCell ⟨b,1,none⟩ v1) (b,0,0) 157 [v0,v1,x2,x3]:=zD h1 (k:=1) (show 1<4 by omega)
 have h3:zx Tryz.prog (((w.setCell ⟨b,0,none⟩ v0).setCell ⟨b,1,none⟩ v1).setCell ⟨b,2,none⟩ v2) (b,0,0) 157 [v0,v1,v2,x3]:=zD h2 (k:=2) (show 2<4 by omega)
 unfold km
 exact zD h3 (k:=3) (show 3<4 by omega)
theorem qp {w:World}{b c:Nat}{v0 v1 v2 v3:Value} (hn:c≠b):(km w b v0 v1 v2 v3).heap[c]? = w.heap[c]?:=by
 unfold km
 rw [zo hn,zo hn,zo hn,zo hn]
theorem jO {s b:Nat}{w wx:World}{v0 v1 v2 v3:Value} (o:qe s w wx) (hb:w.heap.size≤b) (hs:b≠s):qe s w (km wx b v0 v1 v2 v3):=by
 unfold km
 exact qt (qt (qt (qt o hb hs) hb hs) hb hs) hb hs
abbrev zF:Array Value:=#[.int .i64 0,.int .i64 0,.slice none 0 0,.slice none 0 0]
theorem qv {w w2:World}{s:Nat}{x:Nat×Nat×Nat}{t:TypeId}{vs:List Value} (h:zx Tryz.prog w x t vs) (k:qe s w w2) (hn:x.1≠s):zx Tryz.prog w2 x t vs:=zV h (k.old x.1 (zx.lt h) hn)
theorem Src.lt {w:World}{s:Nat}{p:Option Addr}{n c:Nat}{L:List Nat}{K:Nat} (h:Src w s p n c L K):s<w.heap.size:=World.block_lt_of_cell? w _ h.c0
theorem FT.two {K:Value→Prop}{t u:TypeId}{lo d:Nat}{w:World}{op:Int}{a b:List Value}{v:Value} (ho:8≤op) (ho2:op≤16) (ha:FT K t u lo d w (.agg a.toArray)) (hb:FT K t u lo d w (.agg b.toArray)) (la:a.length=4) (lb:b.length=4) (hr:zO u 4 lo w v 2 (a++b)) :
  FT K t u lo (d+1) w (.agg #[.int .i64 op,.int .i64 0,.slice none 0 0,v]):=
 ⟨op,0,.slice none 0 0,v,[],[a,b],rfl,⟨by omega,ho2,by decide,by decide,Nat.zero_le _,fun h=>by omega,by unfold yi;rw [if_pos ho];rfl⟩,⟨rfl,.inl ⟨rfl,rfl⟩⟩,fun r m=>(by cases m),by
  have:[a,b].flatten=a++b:=by simp
  rw [this]
  exact hr,fun x m=>by
   rcases List.mem_cons.1 m with rfl | m
   ·exact ⟨la,ha⟩
   ·rw [List.mem_singleton.1 m];exact ⟨lb,hb⟩⟩
end MK
end
section
open Go Go.Proofs TR
namespace MK
open Go.AEv.GT (zO)
open RD (qe)
theorem dw {s:Nat}{p:Option Addr}{n c:Nat}{L:List Nat}{lo:Nat} (hs:s<lo) {w:World}{K:Nat}{kind:Int} (H:Src w s p n c L K) (hK:K+3≤1000000000) (hlo:lo≤w.heap.size):Calls Tryz.prog 265 #[.pointer (some ⟨s,0,none⟩),.int .i64 1,.int .i64 kind,.int .i64 4] w (FP s p n c L lo 1 (K+3) w):=by
 have H0:=Lib.hid H
 have HLO:=Lib.hid hlo
 have HS:=Lib.hid hs
 have SLT:=H.lt
 have NS:=Lib.hid (show w.heap.size≠s by omega)
 have NS2:=Lib.hid (show s≠w.heap.size by omega)
 have hlo':=hlo
 clear H hlo hs
 go_enter Tryz.func265,Tryz.ntmps265
 go_wp2_with (first
  | (go_at_call 187;(with_reducible refine (Zj (S1.out.grown (za _ _)) (by omega)).mono ?_);rintro e w2 ⟨x2,hx2,rfl,hs2,ho2⟩;have S2:=Lib.hid hs2;have O2:=Lib.hid ho2;have OV:=Lib.hid ((OW.out.trans (RD.qe.qu (za w1 _))).trans ho2);have RR2:=Lib.hid (qv (zk (za w1 _) RR.out) ho2 NS.out);have RM:=Lib.hid (qv (zn w1 (z:=#[.int .i64 5,.int .i64 0,.slice none 0 0,.slice none 0 0]) (t:=157)) ho2 (by have h1:=S1.out.lt;show w1.heap.size≠s;omega));clear hs2 ho2 a0 a1 a2 a3 b0 b1 b2 b3 A0 A1 A2 A3 F0 F1 F2 F3)
  | (go_at_call 187;(with_reducible refine (Zj (H0.out.grown (za _ _)) (by omega)).mono ?_);rintro e w1 ⟨x1,hx1,rfl,hs1,ho1⟩;have S1:=Lib.hid hs1;have O1:=Lib.hid ho1;have OW:=Lib.hid ((RD.qe.qu (b:=s) (za w _)).trans ho1);have R1:=qv (zn w (z:=zF) (t:=157)) ho1 (by show w.heap.size≠s;omega);obtain ⟨a0,b0⟩:=zc (k:=0) R1 rfl;obtain ⟨a1,b1⟩:=zc (k:=1) R1 rfl;obtain ⟨a2,b2⟩:=zc (k:=2) R1 rfl;obtain ⟨a3,b3⟩:=zc (k:=3) R1 rfl;have A0:=fun ob=>RD.ze a0 (za w1 ob);have A1:=fun ob=>RD.ze a1 (za w1 ob);have A2:=fun ob=>RD.ze a2 (za w1 ob);have A3:=fun ob=>RD.ze a3 (za w1 ob);have F0:=fun ob=>RD.zE a0 b0 (za w1 ob);have F1:=fun ob=>RD.zE a1 b1 (za w1 ob);have F2:=fun ob=>RD.zE a2 b2 (za w1 ob);have F3:=fun ob=>RD.zE a3 b3 (za w1 ob);have RR:=Lib.hid R1;clear hs1 ho1 R1))
 ·have R2:=zD (zD (zD (zD RR.out (k:=0) (v:=.int .i64 1) (show 0<4 by omega)) (k:=1) (v:=.int .i64 ((x1:Int) / 3 % 4)) (show 1<4 by omega)) (k:=2) (v:=.slice none 0 0) (show 2<4 by omega)) (k:=3) (v:=.slice none 0 0) (show 3<4 by omega)
  have OO:=qt (k:=3) (v:=.slice none 0 0) (qt (k:=2) (v:=.slice none 0 0) (qt (k:=1) (v:=.int .i64 ((x1:Int) / 3 % 4)) (qt (k:=0) (v:=.int .i64 1) OW.out (Nat.le_refl _) NS.out) (Nat.le_refl _) NS.out) (Nat.le_refl _) NS.out) (Nat.le_refl _) NS.out
  refine bodyPost_ret (zI (p:=8) (ty:=157) rfl _ _ w.heap.size _ _ rfl (zS R2) under157 rfl q8) rfl ?_
  refine ⟨_,rfl,FT.leaf (rs:=[]) ⟨by decide,by decide,by omega,by omega,Nat.zero_le _,fun h=>(by rcases h with h | h<;>cases h),rfl⟩ ⟨rfl,.inl ⟨rfl,rfl⟩⟩ (fun r m=>by cases m),?_,OO⟩
  exact ((H0.out.of S1.out OO (by rw [zo NS2.out,zo NS2.out,zo NS2.out,zo NS2.out])).more (by omega))
 ·have RA:=zk (za w1 (Obj.cells #[.int .i64 (1+(x1:Int) / 3 % 4)] 3)) RR.out
  have OA:=yn OW.out (Obj.cells #[.int .i64 (1+(x1:Int) / 3 % 4)] 3)
  have hne:w1.heap.size≠w.heap.size:=by
   have h3:(w.alloc (Obj.cells zF 157)).heap.size=w.heap.size+1:=by unfold World.alloc;simp
   have h4:(w.alloc (Obj.cells zF 157)).heap.size≤w1.heap.size:=O1.out.size
   omega
  have R2:=zD (zD (zD (zD RA (k:=0) (v:=.int .i64 6) (show 0<4 by omega)) (k:=1) (v:=.int .i64 0) (show 1<4 by omega)) (k:=2) (v:=.slice (some ⟨w1.heap.size,0,none⟩) 1 1) (show 2<4 by omega)) (k:=3) (v:=.slice none 0 0) (show 3<4 by omega)
  have OO:=qt (k:=3) (v:=.slice none 0 0) (qt (k:=2) (v:=.slice (some ⟨w1.heap.size,0,none⟩) 1 1) (qt (k:=1) (v:=.int .i64 0) (qt (k:=0) (v:=.int .i64 6) OA (Nat.le_refl _) NS.out) (Nat.le_refl _) NS.out) (Nat.le_refl _) NS.out) (Nat.le_refl _) NS.out
  have RB:=zV (zn w1 (z:=#[.int .i64 (1+(x1:Int) / 3 % 4)]) (t:=3)) (w':=((((w1.alloc (Obj.cells #[.int .i64 (1+(x1:Int) / 3 % 4)] 3)).setCell ⟨w.heap.size,0,none⟩ (.int .i64 6)).setCell ⟨w.heap.size,1,none⟩ (.int .i64 0)).setCell ⟨w.heap.size,2,none⟩ (.slice (some ⟨w1.heap.size,0,none⟩) 1 1)).setCell ⟨w.heap.size,3,none⟩ (.slice none 0 0)) (by
   show _=(w1.alloc (Obj.cells #[.int .i64 (1+(x1:Int) / 3 % 4)] 3)).heap[w1.heap.size]?
   rw [zo hne,zo hne,zo hne,zo hne])
  refine bodyPost_ret (zI (p:=8) (ty:=157) rfl _ _ w.heap.size _ _ rfl (zS R2) under157 rfl q8) rfl ?_
  refine ⟨_,rfl,FT.leaf (rs:=[.int .i64 (1+(x1:Int) / 3 % 4)]) ⟨by decide,by decide,by decide,by decide,by show 1≤4;omega,fun _=>Nat.one_pos,rfl⟩ ⟨rfl,.inr ⟨(w1.heap.size,0,0),rfl,RB,Nat.le_trans HLO.out OW.out.size⟩⟩ (fun r m=>by rw [List.mem_singleton.1 m];exact ⟨_,rfl,by omega,by omega⟩),?_,OO⟩
  exact ((H0.out.of S1.out OO (by
   rw [zo NS2.out,zo NS2.out,zo NS2.out,zo NS2.out]
   exact (za w1 _).old s S1.out.lt)).more (by omega))
 ·have L2:=Lib.hid (Nat.le_trans hlo' OV.out.size)
  have hn12:RowKit.Hid (w.heap.size≠w1.heap.size):=Lib.hid (by
   have h3:(w.alloc (Obj.cells zF 157)).heap.size=w.heap.size+1:=by unfold World.alloc;simp
   have h4:(w.alloc (Obj.cells zF 157)).heap.size≤w1.heap.size:=O1.out.size
   omega)
  have N1:RowKit.Hid (w1.heap.size≠s):=Lib.hid (by have:=S1.out.lt;omega)
  go_loopg [14] 4 (fun g rv wl=>qe s w wl∧wl.heap[s]? = w2.heap[s]?∧w2.heap.size≤wl.heap.size∧zx Tryz.prog wl (w.heap.size,0,0) 157 [.int .i64 0,.int .i64 0,.slice none 0 0,.slice none 0 0]∧∃ (j:Nat) (ro:Value) (rs:List Value),j+g=5∧1≤j∧rv = .int .i64 j∧zx Tryz.prog wl (w1.heap.size,0,0) 157 [.int .i64 5,.int .i64 0,ro,.slice none 0 0]∧zO 3 1 w2.heap.size wl ro rs.length rs∧(∀ r∈rs,Ci r)∧rs.length+1≤j)
  case atStart=>exact ⟨OV.out,rfl,Nat.le_refl _,RR2.out,1,.slice none 0 0,[],by omega,by omega,rfl,RM.out,⟨rfl,.inl ⟨rfl,rfl⟩⟩,fun r m=>(by cases m),by decide⟩
  case round=>
   obtain ⟨ol,hl,hz,rl,j,ro,rs,hj,h1j,rfl,rm,rw_,hk,hlen⟩:=hrel
   obtain ⟨pr,cr,rfl,_,_,_⟩:=ju rw_
   have OL:=Lib.hid ol
   have HZ:=Lib.hid hz
   have HLs:=Lib.hid hl
   have RL:=Lib.hid rl
   have RMl:=Lib.hid rm
   have RW:=Lib.hid rw_
   have HKs:=Lib.hid hk
   have HN:=Lib.hid hlen
   obtain ⟨a2,b2⟩:=zc (k:=2) rm rfl
   clear ol hl hz rl rm rw_ hk hlen
   cases gk with
   | zero=>
    have hjm:¬ ((j:Int)≤4):=by omega
    obtain ⟨q0,_⟩:=zc (k:=0) RMl.out rfl
    obtain ⟨q1,_⟩:=zc (k:=1) RMl.out rfl
    obtain ⟨q3,_⟩:=zc (k:=3) RMl.out rfl
    obtain ⟨z0,t0⟩:=zc (k:=0) RL.out rfl
    obtain ⟨z1,t1⟩:=zc (k:=1) RL.out rfl
    obtain ⟨z2,t2⟩:=zc (k:=2) RL.out rfl
    obtain ⟨z3,t3⟩:=zc (k:=3) RL.out rfl
    have A2:=fun ob=>RD.ze a2 (za wr ob)
    have B2:=fun ob=>RD.zE a2 b2 (za wr ob)
    have Q0:=fun ob=>RD.ze q0 (za wr ob)
    have Q1:=fun ob=>RD.ze q1 (za wr ob)
    have Q3:=fun ob=>RD.ze q3 (za wr ob)
    have Z0:=fun ob=>RD.ze z0 (za wr ob)
    have Z1:=fun ob=>RD.ze z1 (za wr ob)
    have Z2:=fun ob=>RD.ze z2 (za wr ob)
    have Z3:=fun ob=>RD.ze z3 (za wr ob)
    have T0:=fun ob=>RD.zE z0 t0 (za wr ob)
    have T1:=fun ob=>RD.zE z1 t1 (za wr ob)
    have T2:=fun ob=>RD.zE z2 t2 (za wr ob)
    have T3:=fun ob=>RD.zE z3 t3 (za wr ob)
    have ZS0:=fun ob v=>qC (s:=w1.heap.size) (k:=2) (v:=v) (Z0 ob) hn12.out
    have TS0:∀ ob v,((wr.alloc ob).setCell ⟨w1.heap.size,2,none⟩ v).frozen? ⟨w.heap.size,0,none⟩=false:=fun ob v=>by rw [World.frozen?_setCell];exact T0 ob
    have ZS1:=fun ob v=>qC (s:=w1.heap.size) (k:=2) (v:=v) (Z1 ob) hn12.out
    have TS1:∀ ob v,((wr.alloc ob).setCell ⟨w1.heap.size,2,none⟩ v).frozen? ⟨w.heap.size,1,none⟩=false:=fun ob v=>by rw [World.frozen?_setCell];exact T1 ob
    have ZS2:=fun ob v=>qC (s:=w1.heap.size) (k:=2) (v:=v) (Z2 ob) hn12.out
    have TS2:∀ ob v,((wr.alloc ob).setCell ⟨w1.heap.size,2,none⟩ v).frozen? ⟨w.heap.size,2,none⟩=false:=fun ob v=>by rw [World.frozen?_setCell];exact T2 ob
    have ZS3:=fun ob v=>qC (s:=w1.heap.size) (k:=2) (v:=v) (Z3 ob) hn12.out
    have TS3:∀ ob v,((wr.alloc ob).setCell ⟨w1.heap.size,2,none⟩ v).frozen? ⟨w.heap.size,3,none⟩=false:=fun ob v=>by rw [World.frozen?_setCell];exact T3 ob
    have hlt0:w.heap.size<w2.heap.size:=zx.lt RR2.out
    have slr:s<wr.heap.size:=Nat.lt_of_lt_of_le S2.out.lt HZ.out
    go_wp2
    ·have RR3:=zV (zk (za wr (Obj.cells #[.int .i64 (1+(x1:Int) / 3 % 4)] 3)) RL.out) (zo (k:=2) (v:=.slice (some ⟨wr.heap.size,0,none⟩) 1 1) hn12.out)
     have R2:=ky (v0:=.int .i64 5) (v1:=.int .i64 0) (v2:=.slice (some ⟨wr.heap.size,0,none⟩) 1 1) (v3:=.slice none 0 0) RR3
     have OO:=jO (v0:=.int .i64 5) (v1:=.int .i64 0) (v2:=.slice (some ⟨wr.heap.size,0,none⟩) 1 1) (v3:=.slice none 0 0) (qt (k:=2) (v:=.slice (some ⟨wr.heap.size,0,none⟩) 1 1) (yn OL.out (Obj.cells #[.int .i64 (1+(x1:Int) / 3 % 4)] 3)) OW.out.size N1.out) (Nat.le_refl _) NS.out
     have hw1:w1.heap.size<wr.heap.size:=zx.lt RMl.out
     have hw0:w.heap.size<wr.heap.size:=zx.lt RL.out
     have RB:=zV (zn wr (z:=#[.int .i64 (1+(x1:Int) / 3 % 4)]) (t:=3)) ((qp (b:=w.heap.size) (v0:=.int .i64 5) (v1:=.int .i64 0) (v2:=.slice (some ⟨wr.heap.size,0,none⟩) 1 1) (v3:=.slice none 0 0) (show wr.heap.size≠w.heap.size by omega)).trans (zo (b:=w1.heap.size) (k:=2) (v:=.slice (some ⟨wr.heap.size,0,none⟩) 1 1) (show wr.heap.size≠w1.heap.size by omega)))
     refine bodyPost_ret (zI (p:=8) (ty:=157) rfl _ _ w.heap.size _ _ rfl (zS R2) under157 rfl q8) rfl ?_
     refine ⟨_,rfl,FT.leaf (rs:=[.int .i64 (1+(x1:Int) / 3 % 4)]) ⟨by decide,by decide,by decide,by decide,by show 1≤4;omega,fun _=>Nat.one_pos,rfl⟩ ⟨rfl,.inr ⟨(wr.heap.size,0,0),rfl,RB,Nat.le_trans HLO.out OL.out.size⟩⟩ (fun r m=>by rw [List.mem_singleton.1 m];exact ⟨_,rfl,by omega,by omega⟩),?_,OO⟩
     exact (H0.out.of S2.out OO ((qp NS2.out).trans ((zo N1.out.symm).trans (((za wr _).old s slr).trans HLs.out)))).more (by omega)
    ·have R2:=ky (v0:=.int .i64 5) (v1:=.int .i64 0) (v2:=.slice pr rs.length cr) (v3:=.slice none 0 0) RL.out
     have OO:=jO (v0:=.int .i64 5) (v1:=.int .i64 0) (v2:=.slice pr rs.length cr) (v3:=.slice none 0 0) OL.out (Nat.le_refl _) NS.out
     have RK:=(zO.qA (lo:=w2.heap.size) RW.out (fun c hc hl=>qp (b:=w.heap.size) (v0:=.int .i64 5) (v1:=.int .i64 0) (v2:=.slice pr rs.length cr) (v3:=.slice none 0 0) (show c≠w.heap.size by have hl:w2.heap.size≤c:=hl;omega))).lower L2.out
     refine bodyPost_ret (zI (p:=8) (ty:=157) rfl _ _ w.heap.size _ _ rfl (zS R2) under157 rfl q8) rfl ?_
     refine ⟨_,rfl,FT.leaf (rs:=rs) ⟨by decide,by decide,by decide,by decide,by have:=HN.out;omega,fun h=>(by rcases h with h | h<;>cases h),rfl⟩ RK HKs.out,?_,OO⟩
     exact (H0.out.of S2.out OO ((qp NS2.out).trans HLs.out)).more (by omega)
   | succ g=>
    have hjm:(j:Int)≤4:=by omega
    have A2:=fun ob=>RD.ze a2 (za wr ob)
    have few:RowKit.Hid (rs.length+1≤100000):=Lib.hid (by have:=HN.out;omega)
    go_wp2_with (first
     | (at_builtin;refine GT.YB _ GT.tyI _ _ rfl rfl (RW.out.grown (za _ _)) few.out Nat.one_pos (Nat.le_trans HZ.out (za _ _).size) rfl (us:=[.int .i64 (j:Int)]) rfl (XY _ rfl) (by intro u hu;rw [List.mem_singleton.1 hu];rfl) ?_;intro v' w4 hr hq hw;obtain ⟨q9,c9,rfl⟩:=hq;have R4:=Lib.hid hr;have RW':=RW.out.grown (za wr (Obj.cells #[.int .i64 (j:Int)] 3));have RM4:=qO (zk (za wr _) RMl.out) hw RW' (by decide);have RL4:=Lib.hid (qO (zk (za wr _) RL.out) hw RW' (by decide));obtain ⟨c2,d2⟩:=zc (k:=2) RM4 rfl;have RM5:=Lib.hid RM4;have Z4:=Lib.hid (Nat.le_trans HZ.out (Nat.le_trans (za wr (Obj.cells #[.int .i64 (j:Int)] 3)).size hw.size));have OL4:=Lib.hid (V6 (yn OL.out _) hw RW' OV.out.size S2.out.lt (Nat.lt_of_lt_of_le S2.out.lt (Nat.le_trans HZ.out (za wr _).size)));have HL4:=Lib.hid ((jG hw RW' (c:=s) (Nat.lt_of_lt_of_le S2.out.lt (Nat.le_trans HZ.out (za wr _).size)) (.inl S2.out.lt)).trans (((za wr _).old s (Nat.lt_of_lt_of_le S2.out.lt HZ.out)).trans HLs.out));clear hr hw RM4 RW'))
    ·have hne:w.heap.size≠w1.heap.size:=hn12.out
     have R5:zO 3 1 w2.heap.size w4 (.slice (some q9) (rs.length+1) c9) (rs++[Value.int .i64 (j:Int)]).length (rs++[Value.int .i64 (j:Int)]):=by rw [List.length_append];exact R4.out
     go_roundg g
     case measure=>omega
     case rel=>exact ⟨qt OL4.out (Nat.le_trans OW.out.size (Nat.le_refl _)) N1.out,by rw [zo N1.out.symm];exact HL4.out,Nat.le_trans Z4.out (Nat.le_of_eq (by unfold World.setCell;exact Array.size_modify.symm)),zV RL4.out (zo hne),j+1,_,rs++[.int .i64 j],by omega,by omega,rfl,zD RM5.out (k:=2) (show 2<4 by omega),zO.fA R5 RM5.out,fun r m=>by
      rcases List.mem_append.1 m with m | m
      ·exact HKs.out r m
      ·rw [List.mem_singleton.1 m];exact ⟨j,rfl,by omega,by omega⟩,by rw [List.length_append];have:=HN.out;show rs.length+1+1≤j+1;omega⟩
    ·go_roundg g
     case measure=>omega
     case rel=>exact ⟨OL.out,HLs.out,HZ.out,RL.out,j+1,_,rs,by omega,by omega,rfl,RMl.out,RW.out,HKs.out,by have:=HN.out;omega⟩
end MK
end
section
open Go Go.Proofs TR
namespace MK
open Go.AEv.GT (zO)
open RD (qe)
theorem qG {w:World}{b:Nat}{t:TypeId}{v0 v1 v2 v3:Value} (h:zx Tryz.prog w (b,0,0) t [v0,v1,v2,v3]) :
  (w.cell? ⟨b,0,none⟩=some v0∧w.cell? ⟨b,1,none⟩=some v1∧w.cell? ⟨b,2,none⟩=some v2∧w.cell? ⟨b,3,none⟩=some v3)∧w.frozen? ⟨b,0,none⟩=false∧w.frozen? ⟨b,1,none⟩=false∧w.frozen? ⟨b,2,none⟩=false∧w.frozen? ⟨b,3,none⟩=false:=
 ⟨⟨(zc h rfl).1,(zc h rfl).1,(zc h rfl).1,(zc h rfl).1⟩,(zc h rfl).2,(zc h rfl).2,(zc h rfl).2,(zc h rfl).2⟩
theorem nG {R:Nat}{w w1:World}{ob:Obj}{v0 v1 v2 v3:Value} (g:Grown w w1):iJ (R+1) w (km (w1.alloc ob) R v0 v1 v2 v3):=fun c hc hl=>by
 rw [qp (by omega)]
 exact (g.trans' (za w1 ob)).old c hc
theorem aC {s:Nat}{p:Option Addr}{n c:Nat}{L:List Nat}{lo R d K K0 K1 m:Nat}{op:Int}{w W W1:World}{x0 x1 x2 x3 y0 y1 y2 y3 z0 z1 z2 z3:Value} (H:Src w s p n c L K0) (S:Src W s p n c L K1) (O:qe s w W) (hK:K1≤K) (hs:s<lo) (hlo:lo≤w.heap.size) (hR:w.heap.size≤R)
  (RR:zx Tryz.prog W (R,0,0) 157 [z0,z1,z2,z3]) (ho:8≤op) (ho2:op≤16) (hx:FI (R+1) d W (.agg #[x0,x1,x2,x3])) (hy:FI (R+1) d W (.agg #[y0,y1,y2,y3])) (g:Grown W W1) (hm:m=W1.heap.size) :
  FI lo (d+1) (km (W1.alloc (.cells #[x0,x1,x2,x3,y0,y1,y2,y3] 157)) R (.int .i64 op) (.int .i64 0) (.slice none 0 0) (.slice (some ⟨m,0,none⟩) 2 2)) (.agg #[.int .i64 op,.int .i64 0,.slice none 0 0,.slice (some ⟨m,0,none⟩) 2 2]) ∧
  Src (km (W1.alloc (.cells #[x0,x1,x2,x3,y0,y1,y2,y3] 157)) R (.int .i64 op) (.int .i64 0) (.slice none 0 0) (.slice (some ⟨m,0,none⟩) 2 2)) s p n c L K ∧
  qe s w (km (W1.alloc (.cells #[x0,x1,x2,x3,y0,y1,y2,y3] 157)) R (.int .i64 op) (.int .i64 0) (.slice none 0 0) (.slice (some ⟨m,0,none⟩) 2 2)) ∧
  zx Tryz.prog (km (W1.alloc (.cells #[x0,x1,x2,x3,y0,y1,y2,y3] 157)) R (.int .i64 op) (.int .i64 0) (.slice none 0 0) (.slice (some ⟨m,0,none⟩) 2 2)) (R,0,0) 157 [.int .i64 op,.int .i64 0,.slice none 0 0,.slice (some ⟨m,0,none⟩) 2 2]:=by
 subst hm
 have hsR:R≠s:=by omega
 have hW:W.heap.size≤W1.heap.size:=g.size
 have hRW:R<W.heap.size:=zx.lt RR
 have G:=g.trans' (za W1 (.cells #[x0,x1,x2,x3,y0,y1,y2,y3] 157))
 have OO:=jO (v0:=.int .i64 op) (v1:=.int .i64 0) (v2:=.slice none 0 0) (v3:=.slice (some ⟨W1.heap.size,0,none⟩) 2 2) (O.trans (RD.qe.qu G)) hR hsR
 have RB:=zV (zn W1 (z:=#[x0,x1,x2,x3,y0,y1,y2,y3]) (t:=157)) (qp (b:=R) (c:=W1.heap.size) (v0:=.int .i64 op) (v1:=.int .i64 0) (v2:=.slice none 0 0) (v3:=.slice (some ⟨W1.heap.size,0,none⟩) 2 2) (by omega))
 have kp:=nG (R:=R) (ob:=.cells #[x0,x1,x2,x3,y0,y1,y2,y3] 157) (v0:=.int .i64 op) (v1:=.int .i64 0) (v2:=.slice none 0 0) (v3:=.slice (some ⟨W1.heap.size,0,none⟩) 2 2) g
 refine ⟨FT.two (a:=[x0,x1,x2,x3]) (b:=[y0,y1,y2,y3]) ho ho2 ((hx.qA d kp).lower (by omega) d) ((hy.qA d kp).lower (by omega) d) rfl rfl ⟨rfl,.inr ⟨(W1.heap.size,0,0),rfl,RB,?_⟩⟩,(H.of S OO ?_).more hK,OO,ky (zk G RR)⟩
 ·show lo≤W1.heap.size
  omega
 ·rw [qp (Ne.symm hsR)]
  exact G.old s S.lt
theorem dt {s:Nat}{p:Option Addr}{n c:Nat}{L:List Nat}{lo:Nat} (hs:s<lo) {w:World}{K d:Nat}{kind dd:Int} (hdd:dd=(d:Int)+1) (hd5:d≤5) (hd1:1≤d)
  (ih:∀ {w:World}{K lo:Nat}{dd:Int},s<lo→dd=(d:Int)→Src w s p n c L K→K+3 ^ d≤1000000000→lo≤w.heap.size→Calls Tryz.prog 265 #[.pointer (some ⟨s,0,none⟩),.int .i64 dd,.int .i64 kind,.int .i64 4] w (FP s p n c L lo d (K+3 ^ d) w))
  (H:Src w s p n c L K) (hK:K+3 ^ (d+1)≤1000000000) (hlo:lo≤w.heap.size):Calls Tryz.prog 265 #[.pointer (some ⟨s,0,none⟩),.int .i64 dd,.int .i64 kind,.int .i64 4] w (FP s p n c L lo (d+1) (K+3 ^ (d+1)) w):=by
 have hp:3 ^ (d+1)=3*3 ^ d:=by rw [Nat.pow_succ];omega
 have hp1:1≤3 ^ d:=Nat.pow_pos (by omega)
 have hdI:(1:Int)<(d:Int)+1:=by omega
 subst hdd
 have H0:=Lib.hid H
 have HLO:=Lib.hid hlo
 have HS:=Lib.hid hs
 have SLT:=H.lt
 have NS:=Lib.hid (show w.heap.size≠s by omega)
 have NS2:=Lib.hid (show s≠w.heap.size by omega)
 have hlo':=hlo
 clear H hlo hs
 go_enter Tryz.func265,Tryz.ntmps265
 go_wp2_with (first
  | (go_at_call 265;(with_reducible refine (ih (lo:=w.heap.size+1) (K:=K+1+3 ^ d) (by have:=HS.out;have:=HLO.out;omega) (by omega) (S2.out.grown (za _ _)) (by omega) (Nat.le_trans HZ2.out (za _ _).size)).mono ?_);rintro e w3 ⟨v3,rfl,ft3,hs3,ho3⟩;obtain ⟨y0,y1,q1,m1,d1,q2,m2,d2,rfl⟩:=FT.form ft3;have S3:=Lib.hid hs3;have O3:=Lib.hid ho3;have FY:=Lib.hid ft3;have FX3:=Lib.hid ((FX.out.qA d (zU (za w2 (.cells #[.int .i64 u0,.int .i64 u1,.slice p1 n1 c1,.slice p2 n2 c2] 157)))).qA d (X2 ho3 (by have:=HS.out;have:=HLO.out;omega)));have OV:=Lib.hid ((OX.out.trans (RD.qe.qu (za w2 _))).trans ho3);have RR3:=Lib.hid (qv (zk (za w2 _) RR2.out) ho3 NS.out);have RM:=Lib.hid (qv (zn w2 (z:=#[.int .i64 u0,.int .i64 u1,.slice p1 n1 c1,.slice p2 n2 c2]) (t:=157)) ho3 (by have h1:=S2.out.lt;show w2.heap.size≠s;omega));obtain ⟨⟨e0,e1,e2,e3⟩,_⟩:=qG RM.out;have E0:=fun ob=>RD.ze e0 (za w3 ob);have E1:=fun ob=>RD.ze e1 (za w3 ob);have E2:=fun ob=>RD.ze e2 (za w3 ob);have E3:=fun ob=>RD.ze e3 (za w3 ob);obtain ⟨⟨a0,a1,a2,a3⟩,b0,b1,b2,b3⟩:=qG RR3.out;have A0:=fun ob ob2=>RD.ze a0 ((za w3 ob).trans' (za _ ob2));have A1:=fun ob ob2=>RD.ze a1 ((za w3 ob).trans' (za _ ob2));have A2:=fun ob ob2=>RD.ze a2 ((za w3 ob).trans' (za _ ob2));have A3:=fun ob ob2=>RD.ze a3 ((za w3 ob).trans' (za _ ob2));have F0:=fun ob ob2=>RD.zE a0 b0 ((za w3 ob).trans' (za _ ob2));have F1:=fun ob ob2=>RD.zE a1 b1 ((za w3 ob).trans' (za _ ob2));have F2:=fun ob ob2=>RD.zE a2 b2 ((za w3 ob).trans' (za _ ob2));have F3:=fun ob ob2=>RD.zE a3 b3 ((za w3 ob).trans' (za _ ob2));clear ft3 hs3 ho3 a0 a1 a2 a3 e0 e1 e2 e3)
  | (go_at_call 265;(with_reducible refine (ih (lo:=w.heap.size+1) (K:=K+1) (by have:=HS.out;have:=HLO.out;omega) (by omega) S1.out (by omega) (by have h3:(w.alloc (Obj.cells zF 157)).heap.size=w.heap.size+1:=(by unfold World.alloc;simp);have h4:(w.alloc (Obj.cells zF 157)).heap.size≤w1.heap.size:=O1.out.size;omega)).mono ?_);rintro e w2 ⟨v2,rfl,ft2,hs2,ho2⟩;obtain ⟨u0,u1,p1,n1,c1,p2,n2,c2,rfl⟩:=FT.form ft2;have S2:=Lib.hid hs2;have O2:=Lib.hid ho2;have FX:=Lib.hid ft2;have OX:=Lib.hid (OW.out.trans ho2);have RR2:=Lib.hid (qv RR.out ho2 NS.out);have HZ2:=Lib.hid (zx.lt RR2.out);clear ft2 hs2 ho2 a0 a1 a2 a3 b0 b1 b2 b3 A0 A1 A2 A3 F0 F1 F2 F3)
  | (go_at_call 187;(with_reducible refine (Zj (S1.out.grown (za _ _)) (by omega)).mono ?_);rintro e w2 ⟨x2,hx2,rfl,hs2,ho2⟩;have S2:=Lib.hid hs2;have O2:=Lib.hid ho2;have OV:=Lib.hid ((OW.out.trans (RD.qe.qu (za w1 _))).trans ho2);have RR2:=Lib.hid (qv (zk (za w1 _) RR.out) ho2 NS.out);have RM:=Lib.hid (qv (zn w1 (z:=#[.int .i64 5,.int .i64 0,.slice none 0 0,.slice none 0 0]) (t:=157)) ho2 (by have h1:=S1.out.lt;show w1.heap.size≠s;omega));clear hs2 ho2 a0 a1 a2 a3 b0 b1 b2 b3 A0 A1 A2 A3 F0 F1 F2 F3)
  | (go_at_call 187;(with_reducible refine (Zj (H0.out.grown (za _ _)) (by omega)).mono ?_);rintro e w1 ⟨x1,hx1,rfl,hs1,ho1⟩;have S1:=Lib.hid hs1;have O1:=Lib.hid ho1;have OW:=Lib.hid ((RD.qe.qu (b:=s) (za w _)).trans ho1);have R1:=qv (zn w (z:=zF) (t:=157)) ho1 (by show w.heap.size≠s;omega);obtain ⟨a0,b0⟩:=zc (k:=0) R1 rfl;obtain ⟨a1,b1⟩:=zc (k:=1) R1 rfl;obtain ⟨a2,b2⟩:=zc (k:=2) R1 rfl;obtain ⟨a3,b3⟩:=zc (k:=3) R1 rfl;have A0:=fun ob=>RD.ze a0 (za w1 ob);have A1:=fun ob=>RD.ze a1 (za w1 ob);have A2:=fun ob=>RD.ze a2 (za w1 ob);have A3:=fun ob=>RD.ze a3 (za w1 ob);have F0:=fun ob=>RD.zE a0 b0 (za w1 ob);have F1:=fun ob=>RD.zE a1 b1 (za w1 ob);have F2:=fun ob=>RD.zE a2 b2 (za w1 ob);have F3:=fun ob=>RD.zE a3 b3 (za w1 ob);have RR:=Lib.hid R1;clear hs1 ho1 R1))
 ·have T:=aC (K:=K+3 ^ (d+1)) H0.out S3.out OV.out (by omega) HS.out HLO.out (Nat.le_refl _) RR3.out (op:=16) (by decide) (by decide) FX3.out FY.out (za w3 (.cells #[.int .i64 y0,.int .i64 y1,.slice q1 m1 d1,.slice q2 m2 d2] 157)) (m:=w3.heap.size+1) (by unfold World.alloc;simp)
  refine bodyPost_ret (zI (p:=8) (ty:=157) rfl _ _ w.heap.size _ _ rfl (zS T.2.2.2) under157 rfl q8) rfl ?_
  exact ⟨_,rfl,T.1,T.2.1,T.2.2.1⟩
 ·have R2:=zD (zD (zD (zD RR.out (k:=0) (v:=.int .i64 1) (show 0<4 by omega)) (k:=1) (v:=.int .i64 ((x1:Int) / 3 % 4)) (show 1<4 by omega)) (k:=2) (v:=.slice none 0 0) (show 2<4 by omega)) (k:=3) (v:=.slice none 0 0) (show 3<4 by omega)
  have OO:=qt (k:=3) (v:=.slice none 0 0) (qt (k:=2) (v:=.slice none 0 0) (qt (k:=1) (v:=.int .i64 ((x1:Int) / 3 % 4)) (qt (k:=0) (v:=.int .i64 1) OW.out (Nat.le_refl _) NS.out) (Nat.le_refl _) NS.out) (Nat.le_refl _) NS.out) (Nat.le_refl _) NS.out
  refine bodyPost_ret (zI (p:=8) (ty:=157) rfl _ _ w.heap.size _ _ rfl (zS R2) under157 rfl q8) rfl ?_
  refine ⟨_,rfl,FT.leaf (rs:=[]) ⟨by decide,by decide,by omega,by omega,Nat.zero_le _,fun h=>(by rcases h with h | h<;>cases h),rfl⟩ ⟨rfl,.inl ⟨rfl,rfl⟩⟩ (fun r m=>by cases m),?_,OO⟩
  exact ((H0.out.of S1.out OO (by rw [zo NS2.out,zo NS2.out,zo NS2.out,zo NS2.out])).more (by omega))
 ·have RA:=zk (za w1 (Obj.cells #[.int .i64 (1+(x1:Int) / 3 % 4)] 3)) RR.out
  have OA:=yn OW.out (Obj.cells #[.int .i64 (1+(x1:Int) / 3 % 4)] 3)
  have hne:w1.heap.size≠w.heap.size:=by
   have h3:(w.alloc (Obj.cells zF 157)).heap.size=w.heap.size+1:=by unfold World.alloc;simp
   have h4:(w.alloc (Obj.cells zF 157)).heap.size≤w1.heap.size:=O1.out.size
   omega
  have R2:=zD (zD (zD (zD RA (k:=0) (v:=.int .i64 6) (show 0<4 by omega)) (k:=1) (v:=.int .i64 0) (show 1<4 by omega)) (k:=2) (v:=.slice (some ⟨w1.heap.size,0,none⟩) 1 1) (show 2<4 by omega)) (k:=3) (v:=.slice none 0 0) (show 3<4 by omega)
  have OO:=qt (k:=3) (v:=.slice none 0 0) (qt (k:=2) (v:=.slice (some ⟨w1.heap.size,0,none⟩) 1 1) (qt (k:=1) (v:=.int .i64 0) (qt (k:=0) (v:=.int .i64 6) OA (Nat.le_refl _) NS.out) (Nat.le_refl _) NS.out) (Nat.le_refl _) NS.out) (Nat.le_refl _) NS.out
  have RB:=zV (zn w1 (z:=#[.int .i64 (1+(x1:Int) / 3 % 4)]) (t:=3)) (w':=((((w1.alloc (Obj.cells #[.int .i64 (1+(x1:Int) / 3 % 4)] 3)).setCell ⟨w.heap.size,0,none⟩ (.int .i64 6)).setCell ⟨w.heap.size,1,none⟩ (.int .i64 0)).setCell ⟨w.heap.size,2,none⟩ (.slice (some ⟨w1.heap.size,0,none⟩) 1 1)).setCell ⟨w.heap.size,3,none⟩ (.slice none 0 0)) (by
   show _=(w1.alloc (Obj.cells #[.int .i64 (1+(x1:Int) / 3 % 4)] 3)).heap[w1.heap.size]?
   rw [zo hne,zo hne,zo hne,zo hne])
  refine bodyPost_ret (zI (p:=8) (ty:=157) rfl _ _ w.heap.size _ _ rfl (zS R2) under157 rfl q8) rfl ?_
  refine ⟨_,rfl,FT.leaf (rs:=[.int .i64 (1+(x1:Int) / 3 % 4)]) ⟨by decide,by decide,by decide,by decide,by show 1≤4;omega,fun _=>Nat.one_pos,rfl⟩ ⟨rfl,.inr ⟨(w1.heap.size,0,0),rfl,RB,Nat.le_trans HLO.out OW.out.size⟩⟩ (fun r m=>by rw [List.mem_singleton.1 m];exact ⟨_,rfl,by omega,by omega⟩),?_,OO⟩
  exact ((H0.out.of S1.out OO (by
   rw [zo NS2.out,zo NS2.out,zo NS2.out,zo NS2.out]
   exact (za w1 _).old s S1.out.lt)).more (by omega))
 ·have L2:=Lib.hid (Nat.le_trans hlo' OV.out.size)
  have hn12:RowKit.Hid (w.heap.size≠w1.heap.size):=Lib.hid (by
   have h3:(w.alloc (Obj.cells zF 157)).heap.size=w.heap.size+1:=by unfold World.alloc;simp
   have h4:(w.alloc (Obj.cells zF 157)).heap.size≤w1.heap.size:=O1.out.size
   omega)
  have N1:RowKit.Hid (w1.heap.size≠s):=Lib.hid (by have:=S1.out.lt;omega)
  go_loopg [14] 4 (fun g rv wl=>qe s w wl∧wl.heap[s]? = w2.heap[s]?∧w2.heap.size≤wl.heap.size∧zx Tryz.prog wl (w.heap.size,0,0) 157 [.int .i64 0,.int .i64 0,.slice none 0 0,.slice none 0 0]∧∃ (j:Nat) (ro:Value) (rs:List Value),j+g=5∧1≤j∧rv = .int .i64 j∧zx Tryz.prog wl (w1.heap.size,0,0) 157 [.int .i64 5,.int .i64 0,ro,.slice none 0 0]∧zO 3 1 w2.heap.size wl ro rs.length rs∧(∀ r∈rs,Ci r)∧rs.length+1≤j)
  case atStart=>exact ⟨OV.out,rfl,Nat.le_refl _,RR2.out,1,.slice none 0 0,[],by omega,by omega,rfl,RM.out,⟨rfl,.inl ⟨rfl,rfl⟩⟩,fun r m=>(by cases m),by decide⟩
  case round=>
   obtain ⟨ol,hl,hz,rl,j,ro,rs,hj,h1j,rfl,rm,rw_,hk,hlen⟩:=hrel
   obtain ⟨pr,cr,rfl,_,_,_⟩:=ju rw_
   have OL:=Lib.hid ol
   have HZ:=Lib.hid hz
   have HLs:=Lib.hid hl
   have RL:=Lib.hid rl
   have RMl:=Lib.hid rm
   have RW:=Lib.hid rw_
   have HKs:=Lib.hid hk
   have HN:=Lib.hid hlen
   obtain ⟨a2,b2⟩:=zc (k:=2) rm rfl
   clear ol hl hz rl rm rw_ hk hlen
   cases gk with
   | zero=>
    have hjm:¬ ((j:Int)≤4):=by omega
    obtain ⟨q0,_⟩:=zc (k:=0) RMl.out rfl
    obtain ⟨q1,_⟩:=zc (k:=1) RMl.out rfl
    obtain ⟨q3,_⟩:=zc (k:=3) RMl.out rfl
    obtain ⟨z0,t0⟩:=zc (k:=0) RL.out rfl
    obtain ⟨z1,t1⟩:=zc (k:=1) RL.out rfl
    obtain ⟨z2,t2⟩:=zc (k:=2) RL.out rfl
    obtain ⟨z3,t3⟩:=zc (k:=3) RL.out rfl
    have A2:=fun ob=>RD.ze a2 (za wr ob)
    have B2:=fun ob=>RD.zE a2 b2 (za wr ob)
    have Q0:=fun ob=>RD.ze q0 (za wr ob)
    have Q1:=fun ob=>RD.ze q1 (za wr ob)
    have Q3:=fun ob=>RD.ze q3 (za wr ob)
    have Z0:=fun ob=>RD.ze z0 (za wr ob)
    have Z1:=fun ob=>RD.ze z1 (za wr ob)
    have Z2:=fun ob=>RD.ze z2 (za wr ob)
    have Z3:=fun ob=>RD.ze z3 (za wr ob)
    have T0:=fun ob=>RD.zE z0 t0 (za wr ob)
    have T1:=fun ob=>RD.zE z1 t1 (za wr ob)
    have T2:=fun ob=>RD.zE z2 t2 (za wr ob)
    have T3:=fun ob=>RD.zE z3 t3 (za wr ob)
    have ZS0:=fun ob v=>qC (s:=w1.heap.size) (k:=2) (v:=v) (Z0 ob) hn12.out
    have TS0:∀ ob v,((wr.alloc ob).setCell ⟨w1.heap.size,2,none⟩ v).frozen? ⟨w.heap.size,0,none⟩=false:=fun ob v=>by rw [World.frozen?_setCell];exact T0 ob
    have ZS1:=fun ob v=>qC (s:=w1.heap.size) (k:=2) (v:=v) (Z1 ob) hn12.out
    have TS1:∀ ob v,((wr.alloc ob).setCell ⟨w1.heap.size,2,none⟩ v).frozen? ⟨w.heap.size,1,none⟩=false:=fun ob v=>by rw [World.frozen?_setCell];exact T1 ob
    have ZS2:=fun ob v=>qC (s:=w1.heap.size) (k:=2) (v:=v) (Z2 ob) hn12.out
    have TS2:∀ ob v,((wr.alloc ob).setCell ⟨w1.heap.size,2,none⟩ v).frozen? ⟨w.heap.size,2,none⟩=false:=fun ob v=>by rw [World.frozen?_setCell];exact T2 ob
    have ZS3:=fun ob v=>qC (s:=w1.heap.size) (k:=2) (v:=v) (Z3 ob) hn12.out
    have TS3:∀ ob v,((wr.alloc ob).setCell ⟨w1.heap.size,2,none⟩ v).frozen? ⟨w.heap.size,3,none⟩=false:=fun ob v=>by rw [World.frozen?_setCell];exact T3 ob
    have hlt0:w.heap.size<w2.heap.size:=zx.lt RR2.out
    have slr:s<wr.heap.size:=Nat.lt_of_lt_of_le S2.out.lt HZ.out
    go_wp2
    ·have RR3:=zV (zk (za wr (Obj.cells #[.int .i64 (1+(x1:Int) / 3 % 4)] 3)) RL.out) (zo (k:=2) (v:=.slice (some ⟨wr.heap.size,0,none⟩) 1 1) hn12.out)
     have R2:=ky (v0:=.int .i64 5) (v1:=.int .i64 0) (v2:=.slice (some ⟨wr.heap.size,0,none⟩) 1 1) (v3:=.slice none 0 0) RR3
     have OO:=jO (v0:=.int .i64 5) (v1:=.int .i64 0) (v2:=.slice (some ⟨wr.heap.size,0,none⟩) 1 1) (v3:=.slice none 0 0) (qt (k:=2) (v:=.slice (some ⟨wr.heap.size,0,none⟩) 1 1) (yn OL.out (Obj.cells #[.int .i64 (1+(x1:Int) / 3 % 4)] 3)) OW.out.size N1.out) (Nat.le_refl _) NS.out
     have hw1:w1.heap.size<wr.heap.size:=zx.lt RMl.out
     have hw0:w.heap.size<wr.heap.size:=zx.lt RL.out
     have RB:=zV (zn wr (z:=#[.int .i64 (1+(x1:Int) / 3 % 4)]) (t:=3)) ((qp (b:=w.heap.size) (v0:=.int .i64 5) (v1:=.int .i64 0) (v2:=.slice (some ⟨wr.heap.size,0,none⟩) 1 1) (v3:=.slice none 0 0) (show wr.heap.size≠w.heap.size by omega)).trans (zo (b:=w1.heap.size) (k:=2) (v:=.slice (some ⟨wr.heap.size,0,none⟩) 1 1) (show wr.heap.size≠w1.heap.size by omega)))
     refine bodyPost_ret (zI (p:=8) (ty:=157) rfl _ _ w.heap.size _ _ rfl (zS R2) under157 rfl q8) rfl ?_
     refine ⟨_,rfl,FT.leaf (rs:=[.int .i64 (1+(x1:Int) / 3 % 4)]) ⟨by decide,by decide,by decide,by decide,by show 1≤4;omega,fun _=>Nat.one_pos,rfl⟩ ⟨rfl,.inr ⟨(wr.heap.size,0,0),rfl,RB,Nat.le_trans HLO.out OL.out.size⟩⟩ (fun r m=>by rw [List.mem_singleton.1 m];exact ⟨_,rfl,by omega,by omega⟩),?_,OO⟩
     exact (H0.out.of S2.out OO ((qp NS2.out).trans ((zo N1.out.symm).trans (((za wr _).old s slr).trans HLs.out)))).more (by omega)
    ·have R2:=ky (v0:=.int .i64 5) (v1:=.int .i64 0) (v2:=.slice pr rs.length cr) (v3:=.slice none 0 0) RL.out
     have OO:=jO (v0:=.int .i64 5) (v1:=.int .i64 0) (v2:=.slice pr rs.length cr) (v3:=.slice none 0 0) OL.out (Nat.le_refl _) NS.out
     have RK:=(zO.qA (lo:=w2.heap.size) RW.out (fun c hc hl=>qp (b:=w.heap.size) (v0:=.int .i64 5) (v1:=.int .i64 0) (v2:=.slice pr rs.length cr) (v3:=.slice none 0 0) (show c≠w.heap.size by have hl:w2.heap.size≤c:=hl;omega))).lower L2.out
     refine bodyPost_ret (zI (p:=8) (ty:=157) rfl _ _ w.heap.size _ _ rfl (zS R2) under157 rfl q8) rfl ?_
     refine ⟨_,rfl,FT.leaf (rs:=rs) ⟨by decide,by decide,by decide,by decide,by have:=HN.out;omega,fun h=>(by rcases h with h | h<;>cases h),rfl⟩ RK HKs.out,?_,OO⟩
     exact (H0.out.of S2.out OO ((qp NS2.out).trans HLs.out)).more (by omega)
   | succ g=>
    have hjm:(j:Int)≤4:=by omega
    have A2:=fun ob=>RD.ze a2 (za wr ob)
    have few:RowKit.Hid (rs.length+1≤100000):=Lib.hid (by have:=HN.out;omega)
    go_wp2_with (first
     | (at_builtin;refine GT.YB _ GT.tyI _ _ rfl rfl (RW.out.grown (za _ _)) few.out Nat.one_pos (Nat.le_trans HZ.out (za _ _).size) rfl (us:=[.int .i64 (j:Int)]) rfl (XY _ rfl) (by intro u hu;rw [List.mem_singleton.1 hu];rfl) ?_;intro v' w4 hr hq hw;obtain ⟨q9,c9,rfl⟩:=hq;have R4:=Lib.hid hr;have RW':=RW.out.grown (za wr (Obj.cells #[.int .i64 (j:Int)] 3));have RM4:=qO (zk (za wr _) RMl.out) hw RW' (by decide);have RL4:=Lib.hid (qO (zk (za wr _) RL.out) hw RW' (by decide));obtain ⟨c2,d2⟩:=zc (k:=2) RM4 rfl;have RM5:=Lib.hid RM4;have Z4:=Lib.hid (Nat.le_trans HZ.out (Nat.le_trans (za wr (Obj.cells #[.int .i64 (j:Int)] 3)).size hw.size));have OL4:=Lib.hid (V6 (yn OL.out _) hw RW' OV.out.size S2.out.lt (Nat.lt_of_lt_of_le S2.out.lt (Nat.le_trans HZ.out (za wr _).size)));have HL4:=Lib.hid ((jG hw RW' (c:=s) (Nat.lt_of_lt_of_le S2.out.lt (Nat.le_trans HZ.out (za wr _).size)) (.inl S2.out.lt)).trans (((za wr _).old s (Nat.lt_of_lt_of_le S2.out.lt HZ.out)).trans HLs.out));clear hr hw RM4 RW'))
    ·have hne:w.heap.size≠w1.heap.size:=hn12.out
     have R5:zO 3 1 w2.heap.size w4 (.slice (some q9) (rs.length+1) c9) (rs++[Value.int .i64 (j:Int)]).length (rs++[Value.int .i64 (j:Int)]):=by rw [List.length_append];exact R4.out
     go_roundg g
     case measure=>omega
     case rel=>exact ⟨qt OL4.out (Nat.le_trans OW.out.size (Nat.le_refl _)) N1.out,by rw [zo N1.out.symm];exact HL4.out,Nat.le_trans Z4.out (Nat.le_of_eq (by unfold World.setCell;exact Array.size_modify.symm)),zV RL4.out (zo hne),j+1,_,rs++[.int .i64 j],by omega,by omega,rfl,zD RM5.out (k:=2) (show 2<4 by omega),zO.fA R5 RM5.out,fun r m=>by
      rcases List.mem_append.1 m with m | m
      ·exact HKs.out r m
      ·rw [List.mem_singleton.1 m];exact ⟨j,rfl,by omega,by omega⟩,by rw [List.length_append];have:=HN.out;show rs.length+1+1≤j+1;omega⟩
    ·go_roundg g
     case measure=>omega
     case rel=>exact ⟨OL.out,HLs.out,HZ.out,RL.out,j+1,_,rs,by omega,by omega,rfl,RMl.out,RW.out,HKs.out,by have:=HN.out;omega⟩
theorem kR {s:Nat}{p:Option Addr}{n c:Nat}{L:List Nat}{kind:Int}:∀ (d:Nat),d≤5→∀ {w:World}{K lo:Nat}{dd:Int},s<lo→dd=(d:Int)+1→Src w s p n c L K→K+3 ^ (d+1)≤1000000000→lo≤w.heap.size→Calls Tryz.prog 265 #[.pointer (some ⟨s,0,none⟩),.int .i64 dd,.int .i64 kind,.int .i64 4] w (FP s p n c L lo (d+1) (K+3 ^ (d+1)) w)
 | 0,_,w,K,lo,dd,hs,hdd,H,hK,hlo=>by
  subst hdd
  exact dw hs H hK hlo
 | d+1,hd,w,K,lo,dd,hs,hdd,H,hK,hlo=>dt hs hdd hd (by omega) (fun hs' h2 H' hK' hlo'=>kR d (by omega) hs' h2 H' hK' hlo') H hK hlo
end MK
end
section
open Go Go.Proofs TR
namespace MK
open Go.AEv.GT (zO)
open RD (qe)
theorem bM {s:Nat}{p:Option Addr}{n c:Nat}{L:List Nat}{lo:Nat} (hs:s<lo) {w:World}{K d:Nat}{kind dd b:Int} (hdd:dd=(d:Int)+2) (hd:d≤5) (hb0:0≤b) (hb:b<256)
  (H:Src w s p n c L K) (hK:K+2*3 ^ (d+1)≤1000000000) (hlo:lo≤w.heap.size):Calls Tryz.prog 188 #[.pointer (some ⟨s,0,none⟩),.int .i64 b,.int .i64 dd,.int .i64 kind,.int .i64 4] w (FP s p n c L lo (d+2) (K+2*3 ^ (d+1)) w):=by
 subst hdd
 have H0:=Lib.hid H
 have HLO:=Lib.hid hlo
 have HS:=Lib.hid hs
 have SLT:=H.lt
 have NS:=Lib.hid (show w.heap.size≠s by omega)
 clear H hlo hs
 go_enter Tryz.func188,Tryz.ntmps188
 go_wp2_with (first
  | (go_at_call 265;(with_reducible refine (kR d hd (lo:=w.heap.size+1) (K:=K+3 ^ (d+1)) (by have:=HS.out;have:=HLO.out;omega) (by omega) (S2.out.grown (za _ _)) (by omega) (Nat.le_trans HZ2.out (za _ _).size)).mono ?_);rintro e w3 ⟨v3,rfl,ft3,hs3,ho3⟩;obtain ⟨y0,y1,q1,m1,d1,q2,m2,d2,rfl⟩:=FT.form ft3;have S3:=Lib.hid hs3;have O3:=Lib.hid ho3;have FY:=Lib.hid ft3;have FX3:=Lib.hid ((FX.out.qA (d+1) (zU (za w2 (.cells #[.int .i64 u0,.int .i64 u1,.slice p1 n1 c1,.slice p2 n2 c2] 157)))).qA (d+1) (X2 ho3 (by have:=HS.out;have:=HLO.out;omega)));have OV:=Lib.hid ((OX.out.trans (RD.qe.qu (za w2 _))).trans ho3);have RR3:=Lib.hid (qv (zk (za w2 _) RR2.out) ho3 NS.out);have RM:=Lib.hid (qv (zn w2 (z:=#[.int .i64 u0,.int .i64 u1,.slice p1 n1 c1,.slice p2 n2 c2]) (t:=157)) ho3 (by have h1:=S2.out.lt;show w2.heap.size≠s;omega));obtain ⟨⟨e0,e1,e2,e3⟩,_⟩:=qG RM.out;have E0:=fun ob=>RD.ze e0 (za w3 ob);have E1:=fun ob=>RD.ze e1 (za w3 ob);have E2:=fun ob=>RD.ze e2 (za w3 ob);have E3:=fun ob=>RD.ze e3 (za w3 ob);obtain ⟨⟨a0,a1,a2,a3⟩,b0,b1,b2,b3⟩:=qG RR3.out;have A0:=fun ob ob2=>RD.ze a0 ((za w3 ob).trans' (za _ ob2));have A1:=fun ob ob2=>RD.ze a1 ((za w3 ob).trans' (za _ ob2));have A2:=fun ob ob2=>RD.ze a2 ((za w3 ob).trans' (za _ ob2));have A3:=fun ob ob2=>RD.ze a3 ((za w3 ob).trans' (za _ ob2));have F0:=fun ob ob2=>RD.zE a0 b0 ((za w3 ob).trans' (za _ ob2));have F1:=fun ob ob2=>RD.zE a1 b1 ((za w3 ob).trans' (za _ ob2));have F2:=fun ob ob2=>RD.zE a2 b2 ((za w3 ob).trans' (za _ ob2));have F3:=fun ob ob2=>RD.zE a3 b3 ((za w3 ob).trans' (za _ ob2));clear ft3 hs3 ho3 a0 a1 a2 a3 e0 e1 e2 e3)
  | (go_at_call 265;(with_reducible refine (kR d hd (lo:=w.heap.size+1) (K:=K) (by have:=HS.out;have:=HLO.out;omega) (by omega) (H0.out.grown (za _ _)) (by omega) (by unfold World.alloc;simp)).mono ?_);rintro e w2 ⟨v2,rfl,ft2,hs2,ho2⟩;obtain ⟨u0,u1,p1,n1,c1,p2,n2,c2,rfl⟩:=FT.form ft2;have S2:=Lib.hid hs2;have O2:=Lib.hid ho2;have FX:=Lib.hid ft2;have OX:=Lib.hid ((RD.qe.qu (b:=s) (za w _)).trans ho2);have RR2:=Lib.hid (qv (zn w (z:=zF) (t:=157)) ho2 (by show w.heap.size≠s;omega));have HZ2:=Lib.hid (zx.lt RR2.out);clear ft2 hs2 ho2))
 have T:=aC (K:=K+2*3 ^ (d+1)) H0.out S3.out OV.out (by omega) HS.out HLO.out (Nat.le_refl _) RR3.out (op:=11+b % 5) (by omega) (by omega) FX3.out FY.out (za w3 (.cells #[.int .i64 y0,.int .i64 y1,.slice q1 m1 d1,.slice q2 m2 d2] 157)) (m:=w3.heap.size+1) (by unfold World.alloc;simp)
 refine bodyPost_ret (zI (p:=10) (ty:=157) rfl _ _ w.heap.size _ _ rfl (zS T.2.2.2) under157 rfl q8) rfl ?_
 exact ⟨_,rfl,T.1,T.2.1,T.2.2.1⟩
end MK
end
section
open Go Go.Proofs TR
namespace MK
open Go.AEv.GT (zO)
open RD (qe)
theorem Yn {R:Nat}{w w1:World}{v0 v1 v2 v3:Value} (g:Grown w w1):iJ (R+1) w (km w1 R v0 v1 v2 v3):=fun c hc hl=>by
 rw [qp (by omega)]
 exact g.old c hc
def vD (s:Nat) (p:Option Addr) (n c:Nat) (L:List Nat) (lo d K:Nat) (w W:World) (R:Nat) (v0 v1 v2 v3:Value):Prop:=
 FI lo d W (.agg #[v0,v1,v2,v3])∧Src W s p n c L K∧qe s w W∧zx Tryz.prog W (R,0,0) 157 [v0,v1,v2,v3]
theorem aV {s:Nat}{p:Option Addr}{n c:Nat}{L:List Nat}{lo R d K K0 K1:Nat}{w W:World}{x0 x1 x2 x3 z0 z1 z2 z3:Value} (H:Src w s p n c L K0) (S:Src W s p n c L K1) (O:qe s w W) (hK:K1≤K) (hs:s<lo) (hlo:lo≤w.heap.size) (hR:w.heap.size≤R)
  (RR:zx Tryz.prog W (R,0,0) 157 [z0,z1,z2,z3]) (hx:FI (R+1) d W (.agg #[x0,x1,x2,x3])):vD s p n c L lo d K w (km W R x0 x1 x2 x3) R x0 x1 x2 x3:=by
 have hsR:R≠s:=by omega
 have OO:=jO (v0:=x0) (v1:=x1) (v2:=x2) (v3:=x3) O hR hsR
 exact ⟨(hx.qA d (Yn ⟨fun _ _=>rfl,Nat.le_refl _,rfl,rfl,rfl⟩)).lower (by omega) d,(H.of S OO (qp (Ne.symm hsR))).more hK,OO,ky RR⟩
theorem X1 {s:Nat}{p:Option Addr}{n c:Nat}{L:List Nat}{lo R d K K0 K1:Nat}{op:Int}{w W:World}{z0 z1 z2 z3:Value} (H:Src w s p n c L K0) (S:Src W s p n c L K1) (O:qe s w W) (hK:K1≤K) (hs:s<lo) (hlo:lo≤w.heap.size) (hR:w.heap.size≤R)
  (RR:zx Tryz.prog W (R,0,0) 157 [z0,z1,z2,z3]) (ho:2≤op) (ho2:op≤3):vD s p n c L lo (d+1) K w (km W R (.int .i64 op) (.int .i64 0) (.slice none 0 0) (.slice none 0 0)) R (.int .i64 op) (.int .i64 0) (.slice none 0 0) (.slice none 0 0):=by
 have hsR:R≠s:=by omega
 have OO:=jO (v0:=.int .i64 op) (v1:=.int .i64 0) (v2:=.slice none 0 0) (v3:=.slice none 0 0) O hR hsR
 exact ⟨FT.leaf (rs:=[]) ⟨by omega,by omega,by decide,by decide,Nat.zero_le _,fun h=>by omega,by unfold yi;rw [if_neg (by omega),if_neg (by omega)]⟩ ⟨rfl,.inl ⟨rfl,rfl⟩⟩ (fun r m=>by cases m),(H.of S OO (qp (Ne.symm hsR))).more hK,OO,ky RR⟩
theorem U3 {s:Nat}{p:Option Addr}{n c:Nat}{L:List Nat}{lo R d K K0 K1 m:Nat}{op r:Int}{w W:World}{z0 z1 z2 z3:Value} (H:Src w s p n c L K0) (S:Src W s p n c L K1) (O:qe s w W) (hK:K1≤K) (hs:s<lo) (hlo:lo≤w.heap.size) (hR:w.heap.size≤R)
  (RR:zx Tryz.prog W (R,0,0) 157 [z0,z1,z2,z3]) (ho:4≤op) (ho2:op≤6) (hr:1≤r) (hr2:r≤4) (hm:m=W.heap.size):vD s p n c L lo (d+1) K w (km (W.alloc (.cells #[.int .i64 r] 3)) R (.int .i64 op) (.int .i64 0) (.slice (some ⟨m,0,none⟩) 1 1) (.slice none 0 0)) R (.int .i64 op) (.int .i64 0) (.slice (some ⟨m,0,none⟩) 1 1) (.slice none 0 0):=by
 subst hm
 have hsR:R≠s:=by omega
 have hRW:R<W.heap.size:=zx.lt RR
 have G:=za W (.cells #[.int .i64 r] 3)
 have OO:=jO (v0:=.int .i64 op) (v1:=.int .i64 0) (v2:=.slice (some ⟨W.heap.size,0,none⟩) 1 1) (v3:=.slice none 0 0) (O.trans (RD.qe.qu G)) hR hsR
 have RB:=zV (zn W (z:=#[.int .i64 r]) (t:=3)) (qp (b:=R) (c:=W.heap.size) (v0:=.int .i64 op) (v1:=.int .i64 0) (v2:=.slice (some ⟨W.heap.size,0,none⟩) 1 1) (v3:=.slice none 0 0) (by omega))
 refine ⟨FT.leaf (rs:=[.int .i64 r]) ⟨by omega,by omega,by decide,by decide,by show 1≤4;omega,fun _=>Nat.one_pos,by unfold yi;rw [if_neg (by omega),if_neg (by omega)]⟩ ⟨rfl,.inr ⟨(W.heap.size,0,0),rfl,RB,?_⟩⟩ (fun r' m=>by rw [List.mem_singleton.1 m];exact ⟨r,rfl,hr,hr2⟩),(H.of S OO ?_).more hK,OO,ky (zk G RR)⟩
 ·show lo≤W.heap.size
  omega
 ·rw [qp (Ne.symm hsR)]
  exact G.old s S.lt
theorem FT.one {K:Value→Prop}{t u:TypeId}{lo d:Nat}{w:World}{a:List Value}{v:Value} (ha:FT K t u lo d w (.agg a.toArray)) (la:a.length=4) (hr:zO u 4 lo w v 1 a) :
  FT K t u lo (d+1) w (.agg #[.int .i64 7,.int .i64 0,.slice none 0 0,v]):=
 ⟨7,0,.slice none 0 0,v,[],[a],rfl,⟨by decide,by decide,by decide,by decide,Nat.zero_le _,fun h=>by omega,rfl⟩,⟨rfl,.inl ⟨rfl,rfl⟩⟩,fun r m=>(by cases m),by
  have:[a].flatten=a:=by simp
  rw [this]
  exact hr,fun x m=>by rw [List.mem_singleton.1 m];exact ⟨la,ha⟩⟩
theorem ud {s:Nat}{p:Option Addr}{n c:Nat}{L:List Nat}{lo R d K K0 K1 m:Nat}{w W W1:World}{x0 x1 x2 x3 z0 z1 z2 z3:Value} (H:Src w s p n c L K0) (S:Src W s p n c L K1) (O:qe s w W) (hK:K1≤K) (hs:s<lo) (hlo:lo≤w.heap.size) (hR:w.heap.size≤R)
  (RR:zx Tryz.prog W (R,0,0) 157 [z0,z1,z2,z3]) (hx:FI (R+1) d W (.agg #[x0,x1,x2,x3])) (g:Grown W W1) (hm:m=W1.heap.size) :
  vD s p n c L lo (d+1) K w (km (W1.alloc (.cells #[x0,x1,x2,x3] 157)) R (.int .i64 7) (.int .i64 0) (.slice none 0 0) (.slice (some ⟨m,0,none⟩) 1 1)) R (.int .i64 7) (.int .i64 0) (.slice none 0 0) (.slice (some ⟨m,0,none⟩) 1 1):=by
 subst hm
 have hsR:R≠s:=by omega
 have hW:W.heap.size≤W1.heap.size:=g.size
 have hRW:R<W.heap.size:=zx.lt RR
 have G:=g.trans' (za W1 (.cells #[x0,x1,x2,x3] 157))
 have OO:=jO (v0:=.int .i64 7) (v1:=.int .i64 0) (v2:=.slice none 0 0) (v3:=.slice (some ⟨W1.heap.size,0,none⟩) 1 1) (O.trans (RD.qe.qu G)) hR hsR
 have RB:=zV (zn W1 (z:=#[x0,x1,x2,x3]) (t:=157)) (qp (b:=R) (c:=W1.heap.size) (v0:=.int .i64 7) (v1:=.int .i64 0) (v2:=.slice none 0 0) (v3:=.slice (some ⟨W1.heap.size,0,none⟩) 1 1) (by omega))
 refine ⟨FT.one (a:=[x0,x1,x2,x3]) ((hx.qA d (Yn G)).lower (by omega) d) rfl ⟨rfl,.inr ⟨(W1.heap.size,0,0),rfl,RB,?_⟩⟩,(H.of S OO ?_).more hK,OO,ky (zk G RR)⟩
 ·show lo≤W1.heap.size
  omega
 ·rw [qp (Ne.symm hsR)]
  exact G.old s S.lt
theorem fe {s:Nat}{p:Option Addr}{n c:Nat}{L:List Nat}{lo:Nat} (hs:s<lo) {w:World}{K:Nat}{kind:Int} (H:Src w s p n c L K) (hK:K+3≤1000000000) (hlo:lo≤w.heap.size):Calls Tryz.prog 123 #[.pointer (some ⟨s,0,none⟩),.int .i64 1,.int .i64 kind,.int .i64 4] w (FP s p n c L lo 1 (K+3) w):=by
 have H0:=Lib.hid H
 have HLO:=Lib.hid hlo
 have HS:=Lib.hid hs
 have SLT:=H.lt
 have NS:=Lib.hid (show w.heap.size≠s by omega)
 clear H hlo hs
 go_enter Tryz.func123,Tryz.ntmps123
 go_wp2_with (first
  | (go_at_call 187;(with_reducible refine (Zj (H0.out.grown (za _ _)) (by omega)).mono ?_);rintro e w1 ⟨x1,hx1,rfl,hs1,ho1⟩;have S1:=Lib.hid hs1;have O1:=Lib.hid ho1;have OW:=Lib.hid ((RD.qe.qu (b:=s) (za w _)).trans ho1);have RR:=Lib.hid (qv (zn w (z:=zF) (t:=157)) ho1 (by show w.heap.size≠s;omega));have HZ1:=Lib.hid (show w.heap.size+1≤w1.heap.size from zx.lt RR.out);obtain ⟨⟨a0,a1,a2,a3⟩,b0,b1,b2,b3⟩:=qG RR.out;have A0:=fun ob=>RD.ze a0 (za w1 ob);have A1:=fun ob=>RD.ze a1 (za w1 ob);have A2:=fun ob=>RD.ze a2 (za w1 ob);have A3:=fun ob=>RD.ze a3 (za w1 ob);have F0:=fun ob=>RD.zE a0 b0 (za w1 ob);have F1:=fun ob=>RD.zE a1 b1 (za w1 ob);have F2:=fun ob=>RD.zE a2 b2 (za w1 ob);have F3:=fun ob=>RD.zE a3 b3 (za w1 ob);clear hs1 ho1))
 ·have T:=X1 (d:=0) (K:=K+3) H0.out S1.out OW.out (by omega) HS.out HLO.out (Nat.le_refl _) RR.out (op:=2+(x1:Int) / 16 % 2) (by omega) (by omega)
  refine bodyPost_ret (zI (p:=8) (ty:=157) rfl _ _ w.heap.size _ _ rfl (zS T.2.2.2) under157 rfl q8) rfl ?_
  exact ⟨_,rfl,T.1,T.2.1,T.2.2.1⟩
 ·have T:=X1 (d:=0) (K:=K+3) H0.out S1.out OW.out (by omega) HS.out HLO.out (Nat.le_refl _) RR.out (op:=2+(x1:Int) / 16 % 2) (by omega) (by omega)
  refine bodyPost_ret (zI (p:=8) (ty:=157) rfl _ _ w.heap.size _ _ rfl (zS T.2.2.2) under157 rfl q8) rfl ?_
  exact ⟨_,rfl,T.1,T.2.1,T.2.2.1⟩
 ·have T:=U3 (d:=0) (K:=K+3) H0.out S1.out OW.out (by omega) HS.out HLO.out (Nat.le_refl _) RR.out (op:=4) (r:=1+(x1:Int) / 8 % 4) (by decide) (by decide) (by omega) (by omega) (m:=w1.heap.size) rfl
  refine bodyPost_ret (zI (p:=8) (ty:=157) rfl _ _ w.heap.size _ _ rfl (zS T.2.2.2) under157 rfl q8) rfl ?_
  exact ⟨_,rfl,T.1,T.2.1,T.2.2.1⟩
theorem eZ {s:Nat}{p:Option Addr}{n c:Nat}{L:List Nat}{lo:Nat} (hs:s<lo) {w:World}{K d:Nat}{kind dd:Int} (hdd:dd=(d:Int)+2) (hd5:d≤5)
  (ih:∀ {w:World}{K lo:Nat}{dd:Int},s<lo→dd=(d:Int)+1→Src w s p n c L K→K+3 ^ (d+1)≤1000000000→lo≤w.heap.size→Calls Tryz.prog 123 #[.pointer (some ⟨s,0,none⟩),.int .i64 dd,.int .i64 kind,.int .i64 4] w (FP s p n c L lo (d+1) (K+3 ^ (d+1)) w))
  (H:Src w s p n c L K) (hK:K+3 ^ (d+2)≤1000000000) (hlo:lo≤w.heap.size):Calls Tryz.prog 123 #[.pointer (some ⟨s,0,none⟩),.int .i64 dd,.int .i64 kind,.int .i64 4] w (FP s p n c L lo (d+2) (K+3 ^ (d+2)) w):=by
 have hp:3 ^ (d+2)=3*3 ^ (d+1):=by rw [Nat.pow_succ];omega
 have hp1:1≤3 ^ (d+1):=Nat.pow_pos (by omega)
 have hdI:¬ (d:Int)+2≤1:=by omega
 have hdJ:(1:Int)<(d:Int)+2:=by omega
 subst hdd
 have H0:=Lib.hid H
 have HLO:=Lib.hid hlo
 have HS:=Lib.hid hs
 have SLT:=H.lt
 have NS:=Lib.hid (show w.heap.size≠s by omega)
 clear H hlo hs
 go_enter Tryz.func123,Tryz.ntmps123
 go_wp2_with (first
  | (go_at_call 123;(with_reducible refine (ih (lo:=w.heap.size+1) (K:=K+1+3 ^ (d+1)) (by have:=HS.out;have:=HLO.out;omega) (by omega) (S2.out.grown (za _ _)) (by omega) (Nat.le_trans HZ2.out (za _ _).size)).mono ?_);rintro e w3 ⟨v3,rfl,ft3,hs3,ho3⟩;obtain ⟨y0,y1,q1,m1,d1,q2,m2,d2,rfl⟩:=FT.form ft3;have S3:=Lib.hid hs3;have O3:=Lib.hid ho3;have FY:=Lib.hid ft3;have FX3:=Lib.hid ((FX.out.qA (d+1) (zU (za w2 (.cells #[.int .i64 u0,.int .i64 u1,.slice p1 n1 c1,.slice p2 n2 c2] 157)))).qA (d+1) (X2 ho3 (by have:=HS.out;have:=HLO.out;omega)));have OV:=Lib.hid ((OX.out.trans (RD.qe.qu (za w2 _))).trans ho3);have RR3:=Lib.hid (qv (zk (za w2 _) RR2.out) ho3 NS.out);have RM:=Lib.hid (qv (zn w2 (z:=#[.int .i64 u0,.int .i64 u1,.slice p1 n1 c1,.slice p2 n2 c2]) (t:=157)) ho3 (by have h1:=S2.out.lt;show w2.heap.size≠s;omega));clear A0 A1 A2 A3 F0 F1 F2 F3;obtain ⟨⟨e0,e1,e2,e3⟩,_⟩:=qG RM.out;have E0:=fun ob=>RD.ze e0 (za w3 ob);have E1:=fun ob=>RD.ze e1 (za w3 ob);have E2:=fun ob=>RD.ze e2 (za w3 ob);have E3:=fun ob=>RD.ze e3 (za w3 ob);obtain ⟨⟨a0,a1,a2,a3⟩,b0,b1,b2,b3⟩:=qG RR3.out;have A0:=fun ob ob2=>RD.ze a0 ((za w3 ob).trans' (za _ ob2));have A1:=fun ob ob2=>RD.ze a1 ((za w3 ob).trans' (za _ ob2));have A2:=fun ob ob2=>RD.ze a2 ((za w3 ob).trans' (za _ ob2));have A3:=fun ob ob2=>RD.ze a3 ((za w3 ob).trans' (za _ ob2));have F0:=fun ob ob2=>RD.zE a0 b0 ((za w3 ob).trans' (za _ ob2));have F1:=fun ob ob2=>RD.zE a1 b1 ((za w3 ob).trans' (za _ ob2));have F2:=fun ob ob2=>RD.zE a2 b2 ((za w3 ob).trans' (za _ ob2));have F3:=fun ob ob2=>RD.zE a3 b3 ((za w3 ob).trans' (za _ ob2));clear ft3 hs3 ho3 a0 a1 a2 a3 e0 e1 e2 e3)
  | (go_at_call 123;(with_reducible refine (ih (lo:=w.heap.size+1) (K:=K+1) (by have:=HS.out;have:=HLO.out;omega) (by omega) S1.out (by omega) HZ1.out).mono ?_);rintro e w2 ⟨v2,rfl,ft2,hs2,ho2⟩;obtain ⟨u0,u1,p1,n1,c1,p2,n2,c2,rfl⟩:=FT.form ft2;have S2:=Lib.hid hs2;have O2:=Lib.hid ho2;have FX:=Lib.hid ft2;have OX:=Lib.hid (OW.out.trans ho2);have RR2:=Lib.hid (qv RR.out ho2 NS.out);have HZ2:=Lib.hid (zx.lt RR2.out);clear ft2 hs2 ho2 a0 a1 a2 a3 b0 b1 b2 b3 A0 A1 A2 A3 F0 F1 F2 F3;obtain ⟨⟨a0,a1,a2,a3⟩,b0,b1,b2,b3⟩:=qG RR2.out;have A0:=fun ob ob2=>RD.ze a0 ((za w2 ob).trans' (za _ ob2));have A1:=fun ob ob2=>RD.ze a1 ((za w2 ob).trans' (za _ ob2));have A2:=fun ob ob2=>RD.ze a2 ((za w2 ob).trans' (za _ ob2));have A3:=fun ob ob2=>RD.ze a3 ((za w2 ob).trans' (za _ ob2));have F0:=fun ob ob2=>RD.zE a0 b0 ((za w2 ob).trans' (za _ ob2));have F1:=fun ob ob2=>RD.zE a1 b1 ((za w2 ob).trans' (za _ ob2));have F2:=fun ob ob2=>RD.zE a2 b2 ((za w2 ob).trans' (za _ ob2));have F3:=fun ob ob2=>RD.zE a3 b3 ((za w2 ob).trans' (za _ ob2));clear a0 a1 a2 a3)
  | (go_at_call 188;(with_reducible refine (bM (lo:=w.heap.size+1) (K:=K+1) (d:=d) (by have:=HS.out;have:=HLO.out;omega) (by omega) (by omega) (by omega) (by omega) S1.out (by omega) HZ1.out).mono ?_);rintro e w2 ⟨v2,rfl,ft2,hs2,ho2⟩;obtain ⟨u0,u1,p1,n1,c1,p2,n2,c2,rfl⟩:=FT.form ft2;have S2:=Lib.hid hs2;have FX:=Lib.hid ft2;have OX:=Lib.hid (OW.out.trans ho2);have RR2:=Lib.hid (qv RR.out ho2 NS.out);clear ft2 hs2 ho2 a0 a1 a2 a3 b0 b1 b2 b3 A0 A1 A2 A3 F0 F1 F2 F3;obtain ⟨⟨a0,a1,a2,a3⟩,b0,b1,b2,b3⟩:=qG RR2.out)
  | (go_at_call 187;(with_reducible refine (Zj (H0.out.grown (za _ _)) (by omega)).mono ?_);rintro e w1 ⟨x1,hx1,rfl,hs1,ho1⟩;have S1:=Lib.hid hs1;have O1:=Lib.hid ho1;have OW:=Lib.hid ((RD.qe.qu (b:=s) (za w _)).trans ho1);have RR:=Lib.hid (qv (zn w (z:=zF) (t:=157)) ho1 (by show w.heap.size≠s;omega));have HZ1:=Lib.hid (show w.heap.size+1≤w1.heap.size from zx.lt RR.out);obtain ⟨⟨a0,a1,a2,a3⟩,b0,b1,b2,b3⟩:=qG RR.out;have A0:=fun ob=>RD.ze a0 (za w1 ob);have A1:=fun ob=>RD.ze a1 (za w1 ob);have A2:=fun ob=>RD.ze a2 (za w1 ob);have A3:=fun ob=>RD.ze a3 (za w1 ob);have F0:=fun ob=>RD.zE a0 b0 (za w1 ob);have F1:=fun ob=>RD.zE a1 b1 (za w1 ob);have F2:=fun ob=>RD.zE a2 b2 (za w1 ob);have F3:=fun ob=>RD.zE a3 b3 (za w1 ob);clear hs1 ho1))
 ·have T:=aV (d:=d+2) (K:=K+3 ^ (d+2)) H0.out S2.out OX.out (by omega) HS.out HLO.out (Nat.le_refl _) RR2.out FX.out
  refine bodyPost_ret (zI (p:=8) (ty:=157) rfl _ _ w.heap.size _ _ rfl (zS T.2.2.2) under157 rfl q8) rfl ?_
  exact ⟨_,rfl,T.1,T.2.1,T.2.2.1⟩
 ·have T:=X1 (d:=d+1) (K:=K+3 ^ (d+2)) H0.out S1.out OW.out (by omega) HS.out HLO.out (Nat.le_refl _) RR.out (op:=2+(x1:Int) / 16 % 2) (by omega) (by omega)
  refine bodyPost_ret (zI (p:=8) (ty:=157) rfl _ _ w.heap.size _ _ rfl (zS T.2.2.2) under157 rfl q8) rfl ?_
  exact ⟨_,rfl,T.1,T.2.1,T.2.2.1⟩
 ·have T:=U3 (d:=d+1) (K:=K+3 ^ (d+2)) H0.out S1.out OW.out (by omega) HS.out HLO.out (Nat.le_refl _) RR.out (op:=4) (r:=1+(x1:Int) / 8 % 4) (by decide) (by decide) (by omega) (by omega) (m:=w1.heap.size) rfl
  refine bodyPost_ret (zI (p:=8) (ty:=157) rfl _ _ w.heap.size _ _ rfl (zS T.2.2.2) under157 rfl q8) rfl ?_
  exact ⟨_,rfl,T.1,T.2.1,T.2.2.1⟩
 ·have T:=aV (d:=d+2) (K:=K+3 ^ (d+2)) H0.out S2.out OX.out (by omega) HS.out HLO.out (Nat.le_refl _) RR2.out FX.out
  refine bodyPost_ret (zI (p:=8) (ty:=157) rfl _ _ w.heap.size _ _ rfl (zS T.2.2.2) under157 rfl q8) rfl ?_
  exact ⟨_,rfl,T.1,T.2.1,T.2.2.1⟩
 ·have T:=ud (d:=d+1) (K:=K+3 ^ (d+2)) H0.out S2.out OX.out (by omega) HS.out HLO.out (Nat.le_refl _) RR2.out FX.out (za w2 (.cells #[.int .i64 u0,.int .i64 u1,.slice p1 n1 c1,.slice p2 n2 c2] 157)) (m:=w2.heap.size+1) (by unfold World.alloc;simp)
  refine bodyPost_ret (zI (p:=8) (ty:=157) rfl _ _ w.heap.size _ _ rfl (zS T.2.2.2) under157 rfl q8) rfl ?_
  exact ⟨_,rfl,T.1,T.2.1,T.2.2.1⟩
 ·have hx2:(x1:Int) % 8≠2:=by
   intro e
   simp_all
  have T:=aC (d:=d+1) (K:=K+3 ^ (d+2)) H0.out S3.out OV.out (by omega) HS.out HLO.out (Nat.le_refl _) RR3.out (op:=8+(x1:Int) % 8-3) (by omega) (by omega) FX3.out FY.out (za w3 (.cells #[.int .i64 y0,.int .i64 y1,.slice q1 m1 d1,.slice q2 m2 d2] 157)) (m:=w3.heap.size+1) (by unfold World.alloc;simp)
  refine bodyPost_ret (zI (p:=8) (ty:=157) rfl _ _ w.heap.size _ _ rfl (zS T.2.2.2) under157 rfl q8) rfl ?_
  exact ⟨_,rfl,T.1,T.2.1,T.2.2.1⟩
theorem VL {s:Nat}{p:Option Addr}{n c:Nat}{L:List Nat}{kind:Int}:∀ (d:Nat),d≤5→∀ {w:World}{K lo:Nat}{dd:Int},s<lo→dd=(d:Int)+1→Src w s p n c L K→K+3 ^ (d+1)≤1000000000→lo≤w.heap.size→Calls Tryz.prog 123 #[.pointer (some ⟨s,0,none⟩),.int .i64 dd,.int .i64 kind,.int .i64 4] w (FP s p n c L lo (d+1) (K+3 ^ (d+1)) w)
 | 0,_,w,K,lo,dd,hs,hdd,H,hK,hlo=>by
  subst hdd
  exact fe hs H hK hlo
 | d+1,hd,w,K,lo,dd,hs,hdd,H,hK,hlo=>eZ hs (by rw [hdd];push_cast;omega) (by omega) (fun hs' h2 H' hK' hlo'=>VL d (by omega) hs' h2 H' hK' hlo') H hK hlo
end MK
end
section
open Go Go.Proofs TR
namespace MK
open Go.AEv.GT (zO)
open RD (qe)
theorem tR {w1:World}{p:Option Addr}{n c s:Nat}{L:List Nat}{t:TypeId} (h:ByL w1 p n L) (hp:∀ a,p=some a→a.block<w1.heap.size) (hs:s=w1.heap.size):Src (w1.alloc (.cells #[.slice p n c,.int .i64 0] t)) s p n c L 0:=by
 subst hs
 have R:=zn w1 (z:=#[.slice p n c,.int .i64 0]) (t:=t)
 exact ⟨h.grown (za _ _),fun a e=>Nat.ne_of_lt (hp a e),(zc (k:=0) R rfl).1,⟨0,(zc (k:=1) R rfl).1,Nat.le_refl _⟩,(zc (k:=1) R rfl).2⟩
theorem gw {s R:Nat}{w w0 w2:World}{v0 v1 v2 v3:Value} (g:Grown w w0) (o:qe s w0 w2) (hs:w.heap.size≤s) (hR:w.heap.size≤R):Grown w (km w2 R v0 v1 v2 v3):=by
 have OO:=jO (s:=s) (b:=w2.heap.size+s+1) (w:=w) (wx:=w2) (v0:=v0) (v1:=v1) (v2:=v2) (v3:=v3) ((RD.qe.qu g).trans o) (by have:=o.size;have:=g.size;omega) (by omega)
 refine ⟨fun c hc=>?_,?_,?_,?_,?_⟩
 ·rw [qp (by omega),o.old c (Nat.lt_of_lt_of_le hc g.size) (by omega)]
  exact g.old c hc
 ·have h1:(km w2 R v0 v1 v2 v3).heap.size=w2.heap.size:=by
   unfold km World.setCell
   simp
  rw [h1]
  exact Nat.le_trans g.size o.size
 ·exact o.tape.trans g.tape
 ·exact o.os.trans g.os
 ·exact o.output.trans g.output
def D0 (w:World) (e:Ending) (w2:World):Prop:=∃ v,e = .returned v∧FI w.heap.size 4 w2 v∧Grown w w2
theorem U0 {w:World}{p:Option Addr}{n c:Nat}{L:List Nat}{kind:Int} (h:ByL w p n L) (hp:∀ a,p=some a→a.block<w.heap.size):Calls Tryz.prog 76 #[.slice p n c,.int .i64 kind,.int .i64 4] w (D0 w):=by
 have h0:(w.alloc (.cells zF 157)).heap.size=w.heap.size+1:=by unfold World.alloc;simp
 have SR:=Lib.hid (tR (t:=219) (c:=c) (s:=w.heap.size+1) (h.grown (za w (.cells zF 157))) (fun a e=>by have:=hp a e;omega) h0.symm)
 have SLT:=Lib.hid SR.out.lt
 clear h hp h0
 go_enter Tryz.func76,Tryz.ntmps76
 go_wp2_with (first
  | (go_at_call 123;(with_reducible refine (VL 3 (by omega) (lo:=w.heap.size+2) (K:=0) (dd:=4) (by omega) rfl SR.out (by decide) (Nat.succ_le_of_lt SLT.out)).mono ?_);rintro e w2 ⟨v2,rfl,ft2,hs2,ho2⟩;obtain ⟨u0,u1,p1,n1,c1,p2,n2,c2,rfl⟩:=FT.form ft2;have O2:=Lib.hid ho2;have FX:=Lib.hid ft2;have RR2:=Lib.hid (qv (zk (za (w.alloc (.cells zF 157)) _) (zn w (z:=zF) (t:=157))) ho2 (by show w.heap.size≠w.heap.size+1;omega));clear ft2 hs2 ho2;obtain ⟨⟨a0,a1,a2,a3⟩,b0,b1,b2,b3⟩:=qG RR2.out))
 refine bodyPost_ret (zI (p:=6) (ty:=157) rfl _ _ w.heap.size _ _ rfl (zS (ky RR2.out)) under157 rfl q8) rfl ?_
 exact ⟨_,rfl,((FX.out.lower (lo':=w.heap.size+1) (by omega) 4).qA 4 (Yn ⟨fun _ _=>rfl,Nat.le_refl _,rfl,rfl,rfl⟩)).lower (by omega) 4,gw ((za w _).trans' (za _ _)) O2.out (by omega) (Nat.le_refl _)⟩
end MK
end
section
open Go Go.Proofs TR
namespace GT
def qq (w:World) (v:Value) (k:Nat) (v':Value):Prop:=∃ q c,v' = .slice (some q) k c∧(w.heap.size≤q.block∨∃ p m0 c0,v = .slice (some p) m0 c0∧q.block=p.block)
theorem rp {et:TypeId}{sz k:Nat}{w w':World}{v v':Value}{vs:List Value} (h:zO et sz w.heap.size w' v' k vs) (e:∃ q c,v' = .slice (some q) k c):qq w v k v':=by
 obtain ⟨q,c,rfl⟩:=e
 refine ⟨q,c,rfl,.inl ?_⟩
 rcases h.ex with ⟨_,e⟩ | ⟨x,e,_,hl⟩
 ·cases e
 ·cases e
  exact hl
theorem VX (w:World) {st et:TypeId}{sz:Nat} (T:Ty1 st et sz) (ty:TypeId) {v:Value}{lo n m c0:Nat}{ad:Addr}{vs us:List Value} (hrows:zO et sz lo w v n vs) (few:n+m≤100000) (hm:0<m) (hlo:lo≤w.heap.size) (hu:us.length=m*sz) (hc:∀ j u,us[j]? = some u→w.cell? (ad.add j)=some u) (hone:∀ u∈us,u.oneCell'=true) :
  ∃ v' w',(Builtin.append_ #[st,st] ty #[v,.slice (some ad) m c0]).run Tryz.prog w = .ok v' w'∧zO et sz lo w' v' (n+m) (vs++us)∧qq w v (n+m) v'∧qF v w w':=by
 obtain ⟨i,z,hi,k1,k2,hz,hzs⟩:=T.inf
 have hb2:(n+m)*i.bytes≤140737488355328:=Nat.le_trans (Nat.mul_le_mul few k2) (by decide)
 have hb1:n+m≤maxLen:=by unfold maxLen;omega
 have hlen:(vs++us).length=(n+m)*sz:=by rw [List.length_append,hrows.len,hu,Nat.add_mul]
 have grown:∀ v' w',w'.ownsRow w.heap.size et sz v' (n+m) (vs++us)→w.grownBy w' none→zO et sz lo w' v' (n+m) (vs++us)∧qq w v (n+m) v'∧qF v w w':=by
  intro v' w' ho hgr
  obtain ⟨h1,h2⟩:=lk T.ts hlen (by omega) (Nat.le_refl _) ho
  exact ⟨h1.lower hlo,rp h1 h2,⟨fun c hc _=>hgr.block c hc (by simp),hgr.size,hgr.tape,hgr.os,hgr.output⟩⟩
 rcases hrows.ex with ⟨rfl,rfl⟩ | ⟨y,rfl,hrow,hlo2⟩
 ·have hv:vs=[]:=List.eq_nil_of_length_eq_zero (by rw [hrows.len,Nat.zero_mul])
  subst hv
  obtain ⟨v',w',hrun,r1,r2,_⟩:=run_append_own (P:=Tryz.prog) w w.heap.size st ty et i z sz i.bytes T.u hi hz k1 rfl hzs T.pos (.slice none 0 0) 0 [] (World.ownsRow_nil w _ et sz) ad m c0 us hu hc hone hb1 hb2 (Nat.le_refl _)
  exact ⟨v',w',hrun,grown v' w' r1 r2⟩
 ·have hrow':=hrow
  obtain ⟨arr,fz,r1,r2,r3,r4,r5⟩:=hrow'
  rw [hrows.len,T.ts]at r2
  have hold:∀ (j:Nat) (u:Value),vs[j]? = some u→w.cell? ⟨y.1,y.2.1+j,none⟩=some u:=fun j u hj=>TR.cell_of_row hrow hj
  by_cases hr:n+m≤n+y.2.2
  ·have hroom:y.2.1+n*sz+m*sz≤arr.size:=by
    have:m*sz≤y.2.2*sz:=Nat.mul_le_mul_right _ (by omega)
    omega
   have hspare:∀ j,j<us.length→(w.cell? ⟨y.1,y.2.1+n*sz+j,none⟩).isSome=true∧w.frozen? ⟨y.1,y.2.1+n*sz+j,none⟩=false:=fun j hj=>by
    have hlt:y.2.1+n*sz+j<arr.size:=by omega
    refine ⟨?_,?_⟩
    ·unfold World.cell?
     rw [r1]
     show (arr[y.2.1+n*sz+j]?).isSome=true
     rw [Array.getElem?_eq_getElem hlt]
     rfl
    ·unfold World.frozen?
     rw [r1]
     have:=r3 _ hlt
     show (decide (fz.1≤y.2.1+n*sz+j)&&decide (y.2.1+n*sz+j<fz.2))=false
     rw [Bool.and_eq_false_iff,decide_eq_false_iff_not,decide_eq_false_iff_not]
     omega
   have hsz:y.2.1+n*sz+us.length≤arr.size:=by rw [hu];exact hroom
   obtain ⟨arr',g1,g2,g3,g4⟩:=yW y.1 us (y.2.1+n*sz) w arr et fz r1 hsz
   have hrun:=run_append_room_cells (P:=Tryz.prog) w st ty et i T.u hi y.1 y.2.1 n (n+y.2.2) ad m c0 us (by rw [k1];exact hu) hc hone hr (fun j hj=>by rw [k1];exact (hspare j hj).1) (fun j hj=>by rw [k1];exact (hspare j hj).2)
   rw [k1]at hrun
   refine ⟨_,_,hrun,⟨hlen,.inr ⟨(y.1,y.2.1,y.2.2-m),?_,⟨arr',fz,g1,?_,fun i hi=>r3 i (by omega),r4,fun j hj=>?_⟩,hlo2⟩⟩,⟨_,_,rfl,.inr ⟨_,_,_,rfl,rfl⟩⟩,⟨fun c hc hne=>?_,?_,yA _ _ _ _,?_,?_⟩⟩
   ·rw [show n+m+(y.2.2-m)=n+y.2.2 by omega]
   ·rw [hlen,T.ts,g2]
    show y.2.1+(n+m)*sz+(y.2.2-m)*sz≤arr.size
    rw [Nat.sub_mul,Nat.add_mul]
    have:m*sz≤y.2.2*sz:=Nat.mul_le_mul_right _ (by omega)
    omega
   ·show arr'[y.2.1+j]? = _
    rcases Nat.lt_or_ge j vs.length with h | h
    ·rw [List.getElem?_append_left h,g4 _ (by rw [hrows.len]at h;omega)]
     exact r5 j h
    ·rw [List.getElem?_append_right h]
     rw [List.length_append]at hj
     have:=g3 (j-vs.length) (by omega)
     rw [← hrows.len,show y.2.1+vs.length+(j-vs.length)=y.2.1+j by omega]at this
     exact this
   ·refine World.heap_setCells_other w _ _ _ hc fun e=>hne _ _ _ rfl e.symm
   ·rw [yB];exact Nat.le_refl _
   ·exact World.os_setCells _ _ _ _
   ·exact World.output_setCells _ _ _ _
  ·obtain ⟨v',w',hrun,q1,q2⟩:=run_append_arg_grows (P:=Tryz.prog) w st ty et i z sz i.bytes T.u hi hz k1 rfl hzs T.pos ⟨y.1,y.2.1,none⟩ n (n+y.2.2) vs hrows.len (fun j u hj=>by rw [Addr.add_lit];exact hold j u hj) ad m c0 us hu hc (by omega) hb1 hb2
   exact ⟨v',w',hrun,grown v' w' q1 q2⟩
theorem cN {w w':World}{ops:Array Oper}{o:Oper}{a:Act}{K:Act→World→Prop}{Q:Exit→Act→World→Prop}{E:Prop} (s x:Operand) (t:TypeId) {v u v':Value} (hg:o.guard=none) (hop:o.op=Op.call { callee:=Callee.builtin Builtin.append,args:=#[s,x],argTypes:=#[t,t] })
  (hs:a.eval s=v) (hx:a.eval x=u) (hr:(Builtin.append_ #[t,t] o.type #[v,u]).run Tryz.prog w = .ok v' w') (hK:K (a.put o.dst v') w'):if Region.wanted o (yielded ops a.tmps)=true then Oper.wp Tryz.prog o a w K Q else E:=by
 have hw:Region.wanted o (yielded ops a.tmps)=true:=by simp [Region.wanted,hg]
 rw [if_pos hw]
 unfold Oper.wp
 simp [execOp,hop,resolve,invoke,builtin,hs,hx,hr,Result.andThen]
 exact hK
theorem Xy {w:World}{ops:Array Oper}{o:Oper}{a:Act}{K:Act→World→Prop}{Q:Exit→Act→World→Prop}{E:Prop}{st et:TypeId}{sz:Nat} (T:Ty1 st et sz) (s x:Operand) {v:Value}{lo n m c0:Nat}{ad:Addr}{vs us:List Value} (hg:o.guard=none) (hop:o.op=Op.call { callee:=Callee.builtin Builtin.append,args:=#[s,x],argTypes:=#[st,st] })
  (hrows:zO et sz lo w v n vs) (few:n+m≤100000) (hm:0<m) (hlo:lo≤w.heap.size) (hu:us.length=m*sz) (hc:∀ j u,us[j]? = some u→w.cell? (ad.add j)=some u) (hone:∀ u∈us,u.oneCell'=true) (hs:a.eval s=v) (hx:a.eval x = .slice (some ad) m c0)
  (hK:∀ v' w',zO et sz lo w' v' (n+m) (vs++us)→qq w v (n+m) v'→qF v w w'→K (a.put o.dst v') w'):if Region.wanted o (yielded ops a.tmps)=true then Oper.wp Tryz.prog o a w K Q else E:=by
 obtain ⟨v',w',hrun,r1,r2,r3⟩:=VX w T o.type (c0:=c0) hrows few hm hlo hu hc hone
 exact cN s x st hg hop hs hx hrun (hK v' w' r1 r2 r3)
theorem Ve (w:World) {ops:Array Oper}{rest:List Oper}{o:Oper}{a:Act}{Q:Exit→Act→World→Prop}{st et:TypeId}{sz:Nat} (T:Ty1 st et sz) (s x:Operand) {lo n m c0:Nat}{ad:Addr}{vs us:List Value}
  (hg:o.guard=none) (hop:o.op=Op.call { callee:=Callee.builtin Builtin.append,args:=#[s,x],argTypes:=#[st,st] }) (hrows:zO et sz lo w (a.eval s) n vs) (few:n+m≤100000) (hm:0<m) (hlo:lo≤w.heap.size)
  (hx:a.eval x = .slice (some ad) m c0) (hu:us.length=m*sz) (hc:∀ j u,us[j]? = some u→w.cell? (ad.add j)=some u) (hone:∀ u∈us,u.oneCell'=true)
  (hK:∀ v' w',zO et sz lo w' v' (n+m) (vs++us)→qq w (a.eval s) (n+m) v'→qF (a.eval s) w w'→wpList Tryz.prog ops Q rest (a.put o.dst v') w') :
  wpList Tryz.prog ops Q (o::rest) a w:=by
 obtain ⟨v',w',hrun,r1,r2,r3⟩:=VX w T o.type (c0:=c0) hrows few hm hlo hu hc hone
 have hw:Region.wanted o (yielded ops a.tmps)=true:=by simp [Region.wanted,hg]
 unfold wpList
 rw [if_pos hw]
 refine .inl ?_
 unfold Oper.wp
 simp [execOp,hop,resolve,invoke,builtin,hx,hrun,Result.andThen]
 exact hK v' w' r1 r2 r3
end GT
namespace MK
open GT (zO qq)
open RD (qe)
structure RwP (et:TypeId) (sz:Nat) (B:Nat→Prop) (w:World) (v:Value) (n:Nat) (vs:List Value):Prop where
 len:vs.length=n*sz
 ex:(n=0∧v = .slice none 0 0)∨∃ x:Nat×Nat×Nat,v = .slice (some ⟨x.1,x.2.1,none⟩) n (n+x.2.2)∧zx Tryz.prog w x et vs∧B x.1
theorem RwP.qA {et:TypeId}{sz n:Nat}{B C:Nat→Prop}{w w2:World}{v:Value}{vs:List Value} (h:RwP et sz B w v n vs) (k:∀ c,c<w.heap.size→B c→w2.heap[c]? = w.heap[c]?∧C c):RwP et sz C w2 v n vs:=
 ⟨h.len,h.ex.imp id fun ⟨x,e,r,l⟩=>⟨x,e,zV r (k x.1 (zx.lt r) l).1,(k x.1 (zx.lt r) l).2⟩⟩
theorem RwP.of {et:TypeId}{sz lo n:Nat}{w:World}{v:Value}{vs:List Value} (h:zO et sz lo w v n vs):RwP et sz (fun c=>lo≤c) w v n vs:=⟨h.len,h.ex⟩
theorem RwP.at {et:TypeId}{sz lo n:Nat}{B:Nat→Prop}{w:World}{v:Value}{vs:List Value} (h:RwP et sz B w v n vs) (hB:∀ c,B c→lo≤c):zO et sz lo w v n vs:=⟨h.len,h.ex.imp id fun ⟨x,e,r,l⟩=>⟨x,e,r,hB _ l⟩⟩
def FTP (K : Value → Prop) (t u : TypeId) (B : Nat → Prop) : Nat → World → Value → Prop
  | 0, _, _ => False
  | d + 1, w, v => ∃ (op n : Int) (rv av : Value) (rs : List Value) (ch : List (List Value)), v = .agg #[.int .i64 op, .int .i64 n, rv, av] ∧ Fop op n rs.length ch.length ∧
      RwP t 1 B w rv rs.length rs ∧ (∀ r ∈ rs, K r) ∧ RwP u 4 B w av ch.length ch.flatten ∧ ∀ a ∈ ch, a.length = 4 ∧ FTP K t u B d w (.agg a.toArray)
theorem FTP.qA {K:Value→Prop}{t u:TypeId}{B C:Nat→Prop}:∀ (d:Nat) {w w2:World}{v:Value},FTP K t u B d w v→(∀ c,c<w.heap.size→B c→w2.heap[c]? = w.heap[c]?∧C c)→FTP K t u C d w2 v
 | 0,_,_,_,h,_=>h.elim
 | d+1,w,w2,v,h,k=>by
  obtain ⟨op,n,rv,av,rs,ch,e,hf,hr,hk,ha,hs⟩:=h
  exact ⟨op,n,rv,av,rs,ch,e,hf,hr.qA k,hk,ha.qA k,fun a m=>⟨(hs a m).1,FTP.qA d (hs a m).2 k⟩⟩
theorem FTP.of {K:Value→Prop}{t u:TypeId}{lo:Nat}:∀ (d:Nat) {w:World}{v:Value},FT K t u lo d w v→FTP K t u (fun c=>lo≤c) d w v
 | 0,_,_,h=>h.elim
 | d+1,w,v,h=>by
  obtain ⟨op,n,rv,av,rs,ch,e,hf,hr,hk,ha,hs⟩:=h
  exact ⟨op,n,rv,av,rs,ch,e,hf,.of hr,hk,.of ha,fun a m=>⟨(hs a m).1,FTP.of d (hs a m).2⟩⟩
theorem FTP.to {K:Value→Prop}{t u:TypeId}{lo:Nat}{B:Nat→Prop} (hB:∀ c,B c→lo≤c):∀ (d:Nat) {w:World}{v:Value},FTP K t u B d w v→FT K t u lo d w v
 | 0,_,_,h=>h.elim
 | d+1,w,v,h=>by
  obtain ⟨op,n,rv,av,rs,ch,e,hf,hr,hk,ha,hs⟩:=h
  exact ⟨op,n,rv,av,rs,ch,e,hf,hr.at hB,hk,ha.at hB,fun a m=>⟨(hs a m).1,FTP.to hB d (hs a m).2⟩⟩
end MK
end
section
open Go Go.Proofs TR
namespace MK
open Go.AEv.GT (zO qq)
open RD (qe)
attribute [local go_sem ↓] Go.wp_at_zero Go.wp_at_succ
def Vd (v:Value):Prop:=∃ s,v = .string s∧s.size≤12
abbrev FE:=FT Vd 9 152
def iI (d:Nat) (w:World) (e:Ending) (w2:World):Prop:=∃ v,e = .returned (.tuple #[v,.bool true])∧FE w.heap.size d w2 v∧Grown w w2
theorem qB {w wx:World}{b k:Nat}{v:Value} (g:Grown w wx) (hb:w.heap.size≤b):Grown w (wx.setCell ⟨b,k,none⟩ v):=
 ⟨fun c hc=>by rw [zo (by omega)];exact g.old c hc,by unfold World.setCell;exact Nat.le_trans g.size (Nat.le_of_eq Array.size_modify.symm),g.tape,g.os,g.output⟩
structure N3 (w wx:World) (v0 v1 v2 v3 ro ao:Value):Prop where
 g:Grown w wx
 b:zx Tryz.prog wx (w.heap.size,0,0) 157 [v0,v1,v2,v3]
 r:zx Tryz.prog wx (w.heap.size+1,0,0) 152 [.int .i64 0,.int .i64 0,.slice none 0 0,.slice none 0 0]
 e:zx Tryz.prog wx (w.heap.size+1+1,0,0) 152 [v0,v1,ro,ao]
theorem zQ (w:World) (ob:Obj):(w.alloc ob).heap.size=w.heap.size+1:=by unfold World.alloc;simp
theorem jS {w:World}{z:Array Value}{t:TypeId}{b:Nat} (hb:b=w.heap.size):zx Tryz.prog (w.alloc (.cells z t)) (b,0,0) t z.toList:=by subst hb;exact zn w
theorem ru {w:World}{v0 v1 v2 v3:Value}:N3 w (((w.alloc (.cells #[v0,v1,v2,v3] 157)).alloc (.cells #[.int .i64 0,.int .i64 0,.slice none 0 0,.slice none 0 0] 152)).alloc (.cells #[v0,v1,.slice none 0 0,.slice none 0 0] 152)) v0 v1 v2 v3 (.slice none 0 0) (.slice none 0 0):=
 ⟨((za _ _).trans' (za _ _)).trans' (za _ _),zk ((za _ _).trans' (za _ _)) (zn w),zk (za _ _) (jS (by rw [zQ])),jS (by rw [zQ,zQ])⟩
theorem N3.grown {w wx wy:World}{v0 v1 v2 v3 ro ao:Value} (h:N3 w wx v0 v1 v2 v3 ro ao) (g:Grown wx wy):N3 w wy v0 v1 v2 v3 ro ao:=⟨h.g.trans' g,zk g h.b,zk g h.r,zk g h.e⟩
theorem N3.wrote {w wx wy:World}{v0 v1 v2 v3 ro ao v:Value}{t:TypeId}{sz n:Nat}{vs:List Value} (h:N3 w wx v0 v1 v2 v3 ro ao) (k:qF v wx wy) (hv:zO t sz (w.heap.size+3) wx v n vs):N3 w wy v0 v1 v2 v3 ro ao:=by
 have hb:=zx.lt h.b
 have hr:=zx.lt h.r
 have he:=zx.lt h.e
 exact ⟨GT.jq h.g (hv.lower (by omega)) k,zV h.b (jG k hv hb (.inl (by show w.heap.size<_;omega))),zV h.r (jG k hv hr (.inl (by show w.heap.size+1<_;omega))),zV h.e (jG k hv he (.inl (by show w.heap.size+1+1<_;omega)))⟩
theorem Kb {w wx wy:World}{v0 v1 v2 v3 ro ao v:Value}{t:TypeId}{sz n:Nat}{vs:List Value} (h:N3 w wx v0 v1 v2 v3 ro ao) (k:qF v wx wy) (hv:zO t sz (w.heap.size+3) wx v n vs):N3 w wy v0 v1 v2 v3 ro ao:=h.wrote k hv
theorem aw {w w2:World}{v:Value}{t:TypeId} (g:Grown (w.alloc (.cells #[v] t)) w2):∀ j u,[v][j]? = some u→w2.cell? ((⟨w.heap.size,0,none⟩:Addr).add j)=some u:=fun j u hj=>by
 have h:=TR.cell_of_row (zk g (zn w (z:=#[v]) (t:=t))) hj
 rw [Addr.add_lit]
 exact h
theorem zO.xk {et:TypeId}{sz lo n b k:Nat}{w:World}{v u:Value}{vs:List Value} (h:zO et sz lo w v n vs) (hb:b<lo):zO et sz lo (w.setCell ⟨b,k,none⟩ u) v n vs:=
 ⟨h.len,h.ex.imp id fun ⟨x,e,r,l⟩=>⟨x,e,zV r (zo (by omega)),l⟩⟩
theorem cV (w:World) (a:Addr) (v:Value):(w.setCell a v).heap.size=w.heap.size:=by unfold World.setCell;exact Array.size_modify
theorem Cn:GT.Ty1 150 152 4:=⟨by kernel_rfl,by kernel_rfl,by kernel_rfl,by kernel_rfl,by kernel_rfl,by decide⟩
theorem under152:Tryz.prog.underlying 152=some (.struct (Tryz.prog.fieldsOf 152)):=by kernel_rfl
theorem bt:(Tryz.prog.info? 152).map (·.size)=some 4:=by kernel_rfl
def Own (v:Value) (c:Nat):Prop:=∃ p m0 c0,v = .slice (some p) m0 c0∧p.block=c
structure Al (lo d:Nat) (wx:World) (ao:Value) (xs:List (List Value)):Prop where
 row:zO 152 4 lo wx ao xs.length xs.flatten
 tr:∀ x∈xs,x.length=4∧FTP Vd 9 152 (fun c=>lo≤c∧¬ Own ao c) d wx (.agg x.toArray)
theorem Al.nil (lo d:Nat) (wx:World):Al lo d wx (.slice none 0 0) []:=⟨⟨rfl,.inl ⟨rfl,rfl⟩⟩,fun x m=>by cases m⟩
theorem Al.push {lo d b:Nat}{wr w4 w5 w7 w8:World}{ao v':Value}{xs:List (List Value)}{y:List Value} (h:Al lo d wr ao xs) (g4:Grown wr w4) (hy:FE w4.heap.size d w5 (.agg y.toArray)) (ly:y.length=4) (g5:Grown w4 w5) (g7:Grown w5 w7) (hlo:lo≤wr.heap.size)
  (r:zO 152 4 lo w8 v' (xs.length+1) (xs.flatten++y)) (hn:qq w7 ao (xs.length+1) v') (k:qF ao w7 w8) (hb:b<lo) (e:Nat):Al lo d (w8.setCell ⟨b,e,none⟩ v') v' (xs++[y]):=by
 obtain ⟨q,c',rfl,hq⟩:=hn
 have own_lt:∀ c,Own ao c→c<wr.heap.size:=fun c ⟨p,m0,c0,e1,e2⟩=>by
  rcases h.row.ex with ⟨_,e3⟩ | ⟨x,e3,hr,_⟩
  ·rw [e3]at e1;cases e1
  ·rw [e3]at e1
   cases e1
   rw [← e2]
   exact zx.lt hr
 have s4:=g4.size
 have s5:=g5.size
 have s7:=g7.size
 have fin:∀ c,c<w7.heap.size→lo≤c→¬ Own ao c→(w8.setCell ⟨b,e,none⟩ (.slice (some q) (xs.length+1) c')).heap[c]? = w7.heap[c]?∧¬ Own (.slice (some q) (xs.length+1) c') c:=fun c hc hl ho=>by
  refine ⟨?_,fun ⟨p,m0,c0,e1,e2⟩=>?_⟩
  ·rw [zo (by omega)]
   exact k.qA c hc fun p m c1 e1 e2=>ho ⟨p,m,c1,e1,e2⟩
  ·cases e1
   rcases hq with hq | ⟨p,m0,c0,e1,e3⟩
   ·omega
   ·exact ho ⟨p,m0,c0,e1,e3 ▸ e2⟩
 refine ⟨?_,fun x m=>?_⟩
 ·rw [List.length_append,List.flatten_append]
  have:[y].flatten=y:=by simp
  rw [this]
  exact zO.xk r hb
 ·rcases List.mem_append.1 m with m | m
  ·obtain ⟨h1,h2⟩:=h.tr x m
   refine ⟨h1,h2.qA d fun c hc ⟨hl,ho⟩=>?_⟩
   obtain ⟨f1,f2⟩:=fin c (by omega) hl ho
   exact ⟨f1.trans (((g4.trans' g5).trans' g7).old c hc),hl,f2⟩
  ·rw [List.mem_singleton.1 m]
   refine ⟨ly,(FTP.of d hy).qA d fun c hc hl=>?_⟩
   have hl:w4.heap.size≤c:=hl
   obtain ⟨f1,f2⟩:=fin c (by omega) (by omega) (fun ho=>by have:=own_lt c ho;omega)
   exact ⟨f1.trans (g7.old c hc),by omega,f2⟩
theorem Al.qA {lo d:Nat}{w w2:World}{ao:Value}{xs:List (List Value)} (h:Al lo d w ao xs) (k:∀ c,c<w.heap.size→lo≤c→w2.heap[c]? = w.heap[c]?):Al lo d w2 ao xs:=
 ⟨zO.qA h.row k,fun x m=>⟨(h.tr x m).1,(h.tr x m).2.qA d fun c hc hl=>⟨k c hc hl.1,hl⟩⟩⟩
theorem wA:∀ (ch:List (List Value)) {j i:Nat}{x:List Value},(∀ a∈ch,a.length=4)→ch[j]? = some x→i<4→ch.flatten[j*4+i]? = x[i]?
 | [],j,i,x,_,h,_=>by simp at h
 | y::ch,0,i,x,hl,h,hi=>by
  simp at h
  subst h
  rw [List.flatten_cons,Nat.zero_mul,Nat.zero_add,List.getElem?_append_left (by rw [hl y List.mem_cons_self];exact hi)]
 | y::ch,j+1,i,x,hl,h,hi=>by
  have hy:=hl y List.mem_cons_self
  rw [List.flatten_cons,List.getElem?_append_right (by rw [hy];omega),hy,show (j+1)*4+i-4=j*4+i by omega]
  exact wA ch (fun a m=>hl a (List.mem_cons_of_mem _ m)) (by simpa using h) hi
theorem FT.Dz {K:Value→Prop}{t u:TypeId}{lo d:Nat}{w:World}{x:List Value} (h:FT K t u lo d w (.agg x.toArray)):∃ op n p1 n1 c1 p2 n2 c2,x=[.int .i64 op,.int .i64 n,.slice p1 n1 c1,.slice p2 n2 c2]:=by
 obtain ⟨op,n,p1,n1,c1,p2,n2,c2,e⟩:=h.form
 refine ⟨op,n,p1,n1,c1,p2,n2,c2,?_⟩
 have:=congrArg (fun v=>match v with | .agg a=>a.toList | _=>[]) e
 simpa using this
theorem QH {K:Value→Prop}{t u:TypeId}{lo d:Nat}{w wx:World}{p:Option Addr}{ch:List (List Value)} (hc:Cs wx p ch.flatten) (hs:∀ a∈ch,a.length=4∧FT K t u lo d w (.agg a.toArray)) {j:Nat} (hj:j<ch.length) :
  ∃ b o op n p1 n1 c1 p2 n2 c2,p=some ⟨b,o,none⟩∧wx.cell? ⟨b,o+j*4,none⟩=some (.int .i64 op)∧wx.cell? ⟨b,o+j*4+1,none⟩=some (.int .i64 n)∧wx.cell? ⟨b,o+j*4+2,none⟩=some (.slice p1 n1 c1)∧wx.cell? ⟨b,o+j*4+3,none⟩=some (.slice p2 n2 c2)∧FT K t u lo d w (.agg #[.int .i64 op,.int .i64 n,.slice p1 n1 c1,.slice p2 n2 c2]):=by
 have hx:=List.getElem?_eq_getElem hj
 obtain ⟨_,ft⟩:=hs _ (List.getElem_mem hj)
 obtain ⟨op,n,p1,n1,c1,p2,n2,c2,e⟩:=ft.Dz
 have hl:∀ a∈ch,a.length=4:=fun a m=>(hs a m).1
 have g:∀ i,i<4→ch.flatten[j*4+i]? = [Value.int .i64 op,.int .i64 n,.slice p1 n1 c1,.slice p2 n2 c2][i]?:=fun i hi=>by rw [wA ch hl hx hi,e]
 have g0:ch.flatten[j*4]? = _:=g 0 (by decide)
 obtain ⟨b,o,rfl,hcc⟩:=hc fun e=>by rw [e]at g0;cases g0
 rw [e]at ft
 exact ⟨b,o,op,n,p1,n1,c1,p2,n2,c2,rfl,hcc _ _ g0,hcc _ _ (g 1 (by decide)),hcc _ _ (g 2 (by decide)),hcc _ _ (g 3 (by decide)),ft⟩
theorem s0 {w w2:World}{v0 v1 v2 v3:Value}{t:TypeId} (g:Grown (w.alloc (.cells #[v0,v1,v2,v3] t)) w2) {b:Nat} (hb:b=w.heap.size):∀ j u,[v0,v1,v2,v3][j]? = some u→w2.cell? ((⟨b,0,none⟩:Addr).add j)=some u:=fun j u hj=>by
 subst hb
 have h:=TR.cell_of_row (zk g (zn w (z:=#[v0,v1,v2,v3]) (t:=t))) hj
 rw [Addr.add_lit]
 exact h
theorem qH {P:Program}{fn:Func}{p u:Tmp}{ty:TypeId} (h:fn.results = #[.cell p ty,.tmp u]) (tmps:Array Value) (w:World) (g:Nat) (cs:List Value) (d:TypeDesc)
  (hp:tmps.getD p undef = .pointer (some ⟨g,0,none⟩)) (hc:w.rangeAt g 0 cs) (hu:P.underlying ty=some d) (hd:d.isRow=true) (hi:(P.info? ty).map (·.size)=some cs.length) :
  (results fn tmps).run P w = .ok (.tuple #[.agg cs.toArray,tmps.getD u undef]) w:=by
 have hp':tmps[p]?.getD undef = .pointer (some ⟨g,0,none⟩):=by simpa using hp
 simp [results,h,hp',asAddr,run_loadVar_mid w g 0 ty cs d hc hu hd hi]
theorem XJ {w:World}{b:Nat}{t:TypeId}{x0 x1 x2 x3 v0 v1 v2 v3:Value} (h:zx Tryz.prog w (b,0,0) t [x0,x1,x2,x3]):zx Tryz.prog (km w b v0 v1 v2 v3) (b,0,0) t [v0,v1,v2,v3]:=by
 have h1:zx Tryz.prog (w.setCell ⟨b,0,none⟩ v0) (b,0,0) t [v0,x1,x2,x3]:=zD h (k:=0) (show 0<4 by omega)
 have h2:zx Tryz.prog ((w.setCell ⟨b,0,none⟩ v0).setCell ⟨b,1,none⟩ v1) (b,0,0) t [v0,v1,x2,x3]:=zD h1 (k:=1) (show 1<4 by omega)
 have h3:zx Tryz.prog (((w.setCell ⟨b,0,none⟩ v0).setCell ⟨b,1,none⟩ v1).setCell ⟨b,2,none⟩ v2) (b,0,0) t [v0,v1,v2,x3]:=zD h2 (k:=2) (show 2<4 by omega)
 unfold km
 exact zD h3 (k:=3) (show 3<4 by omega)
def NL2 (w:World) (v0 v1 v2 v3 ro:Value) (ns:List Value) (d N g:Nat) (i:Value) (wx:World):Prop:=∃ (j:Nat) (ao:Value) (xs:List (List Value)),j+g=N∧i = .int .i64 j∧N3 w wx v0 v1 v2 v3 ro ao∧zO 9 1 (w.heap.size+3) wx ro ns.length ns∧Al (w.heap.size+3) d wx ao xs∧xs.length=j∧w.heap.size+3≤wx.heap.size
def NL1 (w:World) (v0 v1 v2 v3:Value) (N g:Nat) (i:Value) (wx:World):Prop:=∃ (j:Nat) (ro:Value) (ns:List Value),j+g=N∧i = .int .i64 j∧N3 w wx v0 v1 v2 v3 ro (.slice none 0 0)∧zO 9 1 (w.heap.size+3) wx ro j ns∧(∀ x∈ns,Vd x)∧w.heap.size+3≤wx.heap.size
theorem N3.Cu {w wx:World}{v0 v1 v2 v3 ro ao u:Value} (h:N3 w wx v0 v1 v2 v3 ro ao):N3 w (wx.setCell ⟨w.heap.size+1+1,2,none⟩ u) v0 v1 v2 v3 u ao∧N3 w (wx.setCell ⟨w.heap.size+1+1,3,none⟩ u) v0 v1 v2 v3 ro u:=
 ⟨⟨qB h.g (by omega),zV h.b (zo (by show w.heap.size≠_;omega)),zV h.r (zo (by show w.heap.size+1≠_;omega)),zD h.e (k:=2) (show 2<4 by omega)⟩,
  ⟨qB h.g (by omega),zV h.b (zo (by show w.heap.size≠_;omega)),zV h.r (zo (by show w.heap.size+1≠_;omega)),zD h.e (k:=3) (show 3<4 by omega)⟩⟩
theorem rn {w w4:World}{v0 v1 v2 v3 ro v':Value}{N g j:Nat}{ns:List Value}{s:ByteArray} (N4:N3 w w4 v0 v1 v2 v3 ro (.slice none 0 0)) (R4:zO 9 1 (w.heap.size+3) w4 v' (j+1) (ns++[.string s])) (hns:∀ x∈ns,Vd x) (hz:s.size≤12) (Z4:w.heap.size+3≤w4.heap.size) (hj:j+1+g=N) :
  NL1 w v0 v1 v2 v3 N g (.int .i64 ((j:Int)+1)) (w4.setCell ⟨w.heap.size+1+1,2,none⟩ v'):=
 ⟨j+1,v',_,hj,rfl,N4.Cu.1,zO.xk R4 (by omega),fun x m=>by
  rcases List.mem_append.1 m with m | m
  ·exact hns x m
  ·rw [List.mem_singleton.1 m];exact ⟨s,rfl,hz⟩,by rw [cV];exact Z4⟩
theorem YM {t1 t2:TypeId}{s1 s2 l1 l2 n1 n2:Nat}{w w2:World}{v1 v2:Value}{vs us:List Value} (h:zO t1 s1 l1 w v1 n1 vs) (k:qF v2 w w2) (hv:zO t2 s2 l2 w v2 n2 us) (ht:t1≠t2):zO t1 s1 l1 w2 v1 n1 vs:=
 ⟨h.len,h.ex.imp id fun ⟨x,e,r,l⟩=>⟨x,e,qO r k hv ht,l⟩⟩
theorem rk {w wr w4 w5 w7 w8:World}{v0 v1 v2 v3 ro ao v':Value}{ns:List Value}{d N g j:Nat}{xs:List (List Value)}{y:List Value} (N2:N3 w wr v0 v1 v2 v3 ro ao) (RO:zO 9 1 (w.heap.size+3) wr ro ns.length ns) (AL:Al (w.heap.size+3) d wr ao xs) (XL:xs.length=j) (SZ:w.heap.size+3≤wr.heap.size)
  (g4:Grown wr w4) (hy:FE w4.heap.size d w5 (.agg y.toArray)) (ly:y.length=4) (g5:Grown w4 w5) (g7:Grown w5 w7)
  (r:zO 152 4 (w.heap.size+3) w8 v' (xs.length+1) (xs.flatten++y)) (hn:qq w7 ao (xs.length+1) v') (k:qF ao w7 w8) (hj:j+1+g=N) :
  NL2 w v0 v1 v2 v3 ro ns d N g (.int .i64 ((j:Int)+1)) (w8.setCell ⟨w.heap.size+1+1,3,none⟩ v'):=by
 have G:=(g4.trans' g5).trans' g7
 have N8:=Kb (N2.grown G) k (AL.row.grown G)
 exact ⟨j+1,v',xs++[y],hj,rfl,N8.Cu.2,zO.xk (YM (RO.grown G) k (AL.row.grown G) (by decide)) (by omega),AL.push g4 hy ly g5 g7 SZ r hn k (by omega) 3,by rw [List.length_append,XL];rfl,by
  rw [cV]
  exact Nat.le_trans SZ (Nat.le_trans G.size k.size)⟩
theorem ry {w wx:World}{v0 v1 v2 v3 ro ao:Value} (h:N3 w wx v0 v1 v2 v3 ro ao):Grown w (km wx (w.heap.size+1) v0 v1 ro ao)∧zx Tryz.prog (km wx (w.heap.size+1) v0 v1 ro ao) (w.heap.size+1,0,0) 152 [v0,v1,ro,ao]:=by
 refine ⟨?_,?_⟩
 ·unfold km
  exact qB (qB (qB (qB h.g (by omega)) (by omega)) (by omega)) (by omega)
 ·exact XJ h.r
theorem Bz {w wr:World}{op n:Int}{ro ao:Value}{ns:List Value}{xs:List (List Value)}{d a b:Nat} (RO:zO 9 1 (w.heap.size+3) wr ro ns.length ns) (AL:Al (w.heap.size+3) d wr ao xs) (NS:∀ x∈ns,Vd x) (hf:Fop op n a b) (ha:ns.length=a) (hb:xs.length=b) :
  FE w.heap.size (d+1) (km wr (w.heap.size+1) (.int .i64 op) (.int .i64 n) ro ao) (.agg #[.int .i64 op,.int .i64 n,ro,ao]):=by
 subst ha
 subst hb
 have kp:iJ (w.heap.size+3) wr (km wr (w.heap.size+1) (.int .i64 op) (.int .i64 n) ro ao):=fun c hc hl=>qp (by omega)
 have A:=AL.qA kp
 exact ⟨op,n,ro,ao,ns,xs,rfl,hf,(zO.qA RO kp).lower (by omega),NS,A.row.lower (by omega),fun x m=>⟨(A.tr x m).1,(A.tr x m).2.to (fun c hc=>by have:=hc.1;omega) d⟩⟩
theorem fY {p : Option Addr} {c : Nat} {ss : List ByteArray} {d : Nat} (ih : ∀ {w : World} {lo : Nat} {v : Value}, FI lo d w v → Jb w p 4 ss → Calls Tryz.prog 121 #[v, .slice p 4 c] w (iI d w)) {w : World} {lo : Nat} {v : Value} (h : FI lo (d + 1) w v) (hS : Jb w p 4 ss) : Calls Tryz.prog 121 #[v, .slice p 4 c] w (iI (d + 1) w) := by
  obtain ⟨op, n, rv, av, rs, ch, rfl, hf, hr, hk, ha, hs⟩ := h
  obtain ⟨p1, c1, rfl, _, hc1, _⟩ := ju hr
  obtain ⟨p2, c2, rfl, _, hc2, _⟩ := ju ha
  have C1 := Lib.hid hc1
  have C2 := Lib.hid hc2
  have SS := Lib.hid hS
  have HK := Lib.hid hk
  have HF := Lib.hid hf
  have HSB := Lib.hid hs
  have few1 := hf.few
  have few2 : ch.length ≤ 2 := by rw [hf.args]; unfold yi; split; · decide
                                  split <;> decide
  clear hr ha hc1 hc2 hS hk hf hs
  go_enter Tryz.func121, Tryz.ntmps121
  go_wp2_with fail
  go_loopg [21] rs.length (fun g i wx => NL1 w (.int .i64 op) (.int .i64 n) (.slice p1 rs.length c1) (.slice p2 ch.length c2) rs.length g i wx)
  case atStart => exact ⟨0, .slice none 0 0, [], by omega, rfl, ru, ⟨rfl, .inl ⟨rfl, rfl⟩⟩, fun x m => (by cases m), by rw [zQ, zQ, zQ]; exact Nat.le_refl _⟩
  case round =>
    obtain ⟨j, ro, ns, hj, rfl, hn, hro, hns, hsz⟩ := hrel
    have N := Lib.hid hn
    have RO := Lib.hid hro
    have NS := Lib.hid hns
    have SZ := Lib.hid hsz
    clear hn hro hns hsz
    cases gk with
    | succ g =>
      have hjlt : (j : Int) < rs.length := by omega
      have hjn : j < rs.length := by omega
      obtain ⟨q3, c3, rfl, _, _, _⟩ := ju RO.out
      obtain ⟨b1, o1, rfl, hcell⟩ := (C1.out.grown N.out.g) (fun e => by rw [e] at hjn; cases hjn)
      obtain ⟨r, hr, hr1, hr4⟩ := HK.out _ (List.getElem_mem hjn)
      have hcj : wr.cell? ⟨b1, o1 + j, none⟩ = some (.int .i64 r) := by rw [hcell j _ (List.getElem?_eq_getElem hjn), hr]
      obtain ⟨m, rfl⟩ : ∃ m : Nat, r = (m : Int) + 1 := ⟨(r - 1).toNat, by omega⟩
      have hm4 : (m : Int) < 4 := by omega
      obtain ⟨b3, o3, rfl, hcn0⟩ := SS.out.at (j := m) (by omega)
      have hcn := RD.ze hcn0 N.out.g
      obtain ⟨⟨_, _, e2, _⟩, _, _, f2, _⟩ := qG N.out.e
      have hz : (kS ss ((m : Int) + 1)).size ≤ 12 := SS.out.size _
      clear hr hcell
      go_wp2_with fail
      have hm0 : (0 : Int) ≤ (m : Int) := by omega
      have hw1 : IntKind.i64.wrap (m : Int) = (m : Int) := by rw [IntKind.wrap_i64]; omega
      have hmn : (m : Int) < (4 : Nat) := by omega
      have few : RowKit.Hid (j + 1 ≤ 100000) := Lib.hid (by omega)
      have hl : ((wr.alloc (Obj.cells #[Value.string (kS ss ((m : Int) + 1))] 9)).drew).heap.size = wr.heap.size + 1 := zQ _ _
      have hlo3 : RowKit.Hid (w.heap.size + 3 ≤ ((wr.alloc (Obj.cells #[Value.string (kS ss ((m : Int) + 1))] 9)).drew).heap.size) := Lib.hid (by rw [hl]; exact Nat.le_succ_of_le SZ.out)
      have GA := Lib.hid ((za wr (Obj.cells #[Value.string (kS ss ((m : Int) + 1))] 9)).trans' (ql _ 1))
      have CA := Lib.hid (aw (v := .string (kS ss ((m : Int) + 1))) (ql (wr.alloc (Obj.cells #[Value.string (kS ss ((m : Int) + 1))] 9)) 1))
      have e2a := fun ob => RD.ze e2 (za wr ob)
      have hcna := fun ob => RD.ze hcn (za wr ob)
      clear ih hl
      go_region_law
        ((refine GT.Xy GT.tyT (.tmp 35) (.tmp 41) (v := .slice q3 j c3) (lo := w.heap.size + 3) (n := j) (m := 1) (c0 := 1) (ad := ⟨wr.heap.size, 0, none⟩) (us := [.string (kS ss ((m : Int) + 1))]) (by rfl) (by rfl) (RO.out.grown GA.out) few.out Nat.one_pos hlo3.out rfl CA.out (fun u hu => by rw [List.mem_singleton.1 hu]; rfl) (by rfl) (by rfl) ?_; intro v' w4 k1 k2 k3; obtain ⟨q9, c9, rfl, _⟩ := k2; have R4 := Lib.hid k1; have N4 := Lib.hid (Kb (N.out.grown GA.out) k3 (RO.out.grown GA.out)); have Z4 := Lib.hid (Nat.le_trans hlo3.out k3.size); obtain ⟨e24, f24⟩ := zc (k := 2) N4.out.e rfl; have E4 := Lib.hid e24; have HN4 := Lib.hid (RD.ze hcn0 N4.out.g); clear k1 k3))
      all_goals (dsimp only [Exit.inBlock, Exit.then])
      all_goals (
        go_wp2_with fail
        go_roundg g
        case measure => omega
        case rel => exact rn N4.out R4.out NS.out hz Z4.out (by omega))
    | zero =>
      have hjlt : ¬ ((j : Int) < rs.length) := by omega
      have hjn : j = rs.length := by omega
      subst hjn
      obtain ⟨q3, c3, rfl, _, _, _⟩ := ju RO.out
      obtain ⟨⟨b0, _, _, b3⟩, _, _, _, _⟩ := qG N.out.b
      have hl : ns.length = rs.length := by have := RO.out.len; omega
      clear HK
      go_wp2_with fail
      go_loopg [48] ch.length (fun g i wx => NL2 w (.int .i64 op) (.int .i64 n) (.slice p1 rs.length c1) (.slice p2 ch.length c2) (.slice q3 rs.length c3) ns d ch.length g i wx)
      case atStart => exact ⟨0, .slice none 0 0, [], by omega, rfl, N.out, by rw [hl]; exact RO.out, Al.nil _ _ _, rfl, SZ.out⟩
      case round =>
        obtain ⟨j, ao, xs, hj, rfl, hn, hro, hal, hxl, hsz⟩ := hrel
        have N2 := Lib.hid hn
        have RO2 := Lib.hid hro
        have AL := Lib.hid hal
        have XL := Lib.hid hxl
        have SZ2 := Lib.hid hsz
        clear hn hro hal hsz hxl
        obtain ⟨q4, c4, rfl, _, _, _⟩ := ju AL.out.row
        cases gk with
        | succ g =>
          have hjlt : (j : Int) < ch.length := by omega
          have hjn : j < ch.length := by omega
          obtain ⟨b2, o2, z0, z1, k1, l1, m1, k2, l2, m2, rfl, x0, x1, x2, x3, hft⟩ := QH (C2.out.grown N2.out.g) HSB.out hjn
          have FTX := Lib.hid hft
          obtain ⟨⟨_, _, _, e3⟩, _, _, _, f3⟩ := qG N2.out.e
          clear hft
          have few3 : RowKit.Hid (xs.length + 1 ≤ 100000) := Lib.hid (by have := XL.out; omega)
          go_wp2_with (first
            | (go_at_call 121; (with_reducible refine (ih (FTX.out.qA d (zU (N2.out.g.trans' (za _ _)))) (SS.out.grown (N2.out.g.trans' (za _ _)))).mono ?_); rintro e w5 ⟨v5, rfl, ft5, g5⟩; obtain ⟨y0, y1, r1, i1, d1, r2, i2, d2, rfl⟩ := FT.form ft5; have F5 := Lib.hid ft5; have G5 := Lib.hid g5; have G57 := Lib.hid ((za w5 (.cells #[.int .i64 y0, .int .i64 y1, .slice r1 i1 d1, .slice r2 i2 d2] 152)).trans' (za _ (.cells #[.int .i64 y0, .int .i64 y1, .slice r1 i1 d1, .slice r2 i2 d2] 152))); have G7 := Lib.hid (((za wr _).trans' g5).trans' G57.out); have e3a := fun ob => RD.ze e3 (((za wr _).trans' g5).trans' (za w5 ob)); clear ft5 g5 e3)
            | (at_builtin; refine GT.Ve _ Cn _ _ rfl rfl (AL.out.row.grown G7.out) few3.out Nat.one_pos (Nat.le_trans SZ2.out G7.out.size) rfl (us := [.int .i64 y0, .int .i64 y1, .slice r1 i1 d1, .slice r2 i2 d2]) rfl (s0 (RD.zL _) (by rw [zQ])) (fun u hu => by simp at hu; rcases hu with rfl | rfl | rfl | rfl <;> rfl) ?_; intro v' w8 k1 k2 k3; have R8 := Lib.hid k1; have Q8 := Lib.hid k2; have W8 := Lib.hid k3; obtain ⟨q9, c9, rfl, _⟩ := k2; have N8 := Kb (N2.out.grown G7.out) k3 (AL.out.row.grown G7.out); obtain ⟨e38, f38⟩ := zc (k := 3) N8.e rfl; clear k1 k3 N8))
          go_roundg g
          case measure => omega
          case rel => exact rk N2.out RO2.out AL.out XL.out SZ2.out (za _ _) (y := [.int .i64 y0, .int .i64 y1, .slice r1 i1 d1, .slice r2 i2 d2]) F5.out rfl G5.out G57.out R8.out Q8.out W8.out (by omega)
        | zero =>
          have hjlt : ¬ ((j : Int) < ch.length) := by omega
          have hjn : j = ch.length := by omega
          obtain ⟨⟨e0, e1, e2, e3⟩, _⟩ := qG N2.out.e
          obtain ⟨⟨a0, a1, a2, a3⟩, b0, b1, b2, b3⟩ := qG N2.out.r
          go_wp2_with fail
          obtain ⟨T1, T2⟩ := ry N2.out
          refine bodyPost_ret (qH (p := 4) (ty := 152) rfl _ _ (w.heap.size + 1) _ _ rfl (zS T2) under152 rfl bt) rfl ?_
          exact ⟨_, rfl, Bz RO2.out AL.out NS.out HF.out hl (by have := XL.out; omega), T1⟩
theorem Ka {p:Option Addr}{c:Nat}{ss:List ByteArray}:∀ (d:Nat) {w:World}{lo:Nat}{v:Value},FI lo d w v→Jb w p 4 ss→Calls Tryz.prog 121 #[v,.slice p 4 c] w (iI d w)
 | 0,_,_,_,h,_=>h.elim
 | d+1,_,_,_,h,hS=>fY (fun h' hS'=>Ka d h' hS') h hS
end MK
end
section
open Go Go.Proofs TR
namespace MK
open Go.AEv.GT (zO qq)
def Zg (m:Nat) (w:World) (e:Ending) (w2:World):Prop:=∃ k:Nat,e = .returned (.int .i64 k)∧k≤m∧Grown w w2
def DpL (w:World) (m N g:Nat) (s i:Value) (wx:World):Prop:=Grown w wx∧∃ j k:Nat,j+g=N∧i = .int .i64 j∧s = .int .i64 k∧k≤m
theorem gH {d : Nat} (hd : d ≤ 1000) (ih : ∀ {w : World} {lo : Nat} {v : Value}, FE lo d w v → Calls Tryz.prog 184 #[v] w (Zg d w)) {w : World} {lo : Nat} {v : Value} (h : FE lo (d + 1) w v) : Calls Tryz.prog 184 #[v] w (Zg (d + 1) w) := by
  obtain ⟨op, n, rv, av, rs, ch, rfl, hf, hr, hk, ha, hs⟩ := h
  obtain ⟨p1, c1, rfl, _, hc1, _⟩ := ju hr
  obtain ⟨p2, c2, rfl, _, hc2, _⟩ := ju ha
  have C2 := Lib.hid hc2
  have HSB := Lib.hid hs
  have few2 : ch.length ≤ 2 := by rw [hf.args]; unfold yi; split; · decide
                                  split <;> decide
  clear hr ha hc1 hc2 hk hf hs
  go_enter Tryz.func184, Tryz.ntmps184
  go_wp2_with fail
  go_loopg [3, 10] ch.length (fun g s i wx => DpL w d ch.length g s i wx)
  case atStart => exact ⟨za _ _, 0, 0, by omega, rfl, rfl, Nat.zero_le _⟩
  case round =>
    obtain ⟨hg, j, k, hj, rfl, rfl, hk⟩ := hrel
    have HG := Lib.hid hg
    clear hg
    cases gk with
    | succ g =>
      have hjlt : (j : Int) < ch.length := by omega
      have hjn : j < ch.length := by omega
      obtain ⟨b2, o2, z0, z1, k1, l1, m1, k2, l2, m2, rfl, x0, x1, x2, x3, hft⟩ := QH (C2.out.grown HG.out) HSB.out hjn
      have FTX := Lib.hid hft
      clear hft
      go_wp2_with (first
        | (go_at_call 184; (with_reducible refine (ih (FTX.out.qA d (zU (HG.out.trans' (za _ _))))).mono ?_); rintro e w5 ⟨q, rfl, hq, g5⟩; have G5 := Lib.hid ((HG.out.trans' (za _ _)).trans' g5); clear g5))
      all_goals (
        go_roundg g
        case measure => omega)
      case rel => exact ⟨G5.out, j + 1, q, by omega, rfl, rfl, by omega⟩
      case rel => exact ⟨G5.out, j + 1, k, by omega, rfl, rfl, by omega⟩
    | zero =>
      have hjlt : ¬ ((j : Int) < ch.length) := by omega
      go_wp2_with fail
      go_ret
      exact ⟨k + 1, rfl, by omega, HG.out⟩
theorem KE:∀ (d:Nat) {w:World}{lo:Nat}{v:Value},d≤1000→FE lo d w v→Calls Tryz.prog 184 #[v] w (Zg d w)
 | 0,_,_,_,_,h=>h.elim
 | d+1,_,_,_,hd,h=>gH (by omega) (fun h'=>KE d (by omega) h') h
theorem mS {d : Nat} (hd : 3 ^ d ≤ 1000000) (ih : ∀ {w : World} {lo : Nat} {v : Value}, FE lo d w v → Calls Tryz.prog 185 #[v] w (Zg (3 ^ d) w)) {w : World} {lo : Nat} {v : Value} (h : FE lo (d + 1) w v) : Calls Tryz.prog 185 #[v] w (Zg (3 ^ (d + 1)) w) := by
  obtain ⟨op, n, rv, av, rs, ch, rfl, hf, hr, hk, ha, hs⟩ := h
  obtain ⟨p1, c1, rfl, _, hc1, _⟩ := ju hr
  obtain ⟨p2, c2, rfl, _, hc2, _⟩ := ju ha
  have hp : 3 ^ (d + 1) = 3 * 3 ^ d := by rw [Nat.pow_succ]; omega
  have hp1 : 1 ≤ 3 ^ d := Nat.pow_pos (by omega)
  have C2 := Lib.hid hc2
  have HSB := Lib.hid hs
  have few2 : ch.length ≤ 2 := by rw [hf.args]; unfold yi; split; · decide
                                  split <;> decide
  obtain ⟨D, hD⟩ : ∃ D, D = 3 ^ d := ⟨_, rfl⟩
  rw [hp]
  rw [← hD] at ih hp1 hd ⊢
  clear hr ha hc1 hc2 hk hf hs hp hD
  go_enter Tryz.func185, Tryz.ntmps185
  go_wp2_with fail
  go_loopg [3, 9] ch.length (fun g s i wx => Grown w wx ∧ ∃ j k : Nat, j + g = ch.length ∧ i = .int .i64 j ∧ s = .int .i64 k ∧ k ≤ 1 + j * D)
  case atStart => exact ⟨za _ _, 0, 1, by omega, rfl, rfl, Nat.le_add_right _ _⟩
  case round =>
    obtain ⟨hg, j, k, hj, rfl, rfl, hk⟩ := hrel
    have HG := Lib.hid hg
    clear hg
    have hkD : k ≤ 3 * D := by
      have : j * D ≤ 2 * D := Nat.mul_le_mul_right _ (by omega)
      omega
    have HKK := Lib.hid hk
    clear hk
    cases gk with
    | succ g =>
      have hjlt : (j : Int) < ch.length := by omega
      have hjn : j < ch.length := by omega
      obtain ⟨b2, o2, z0, z1, k1, l1, m1, k2, l2, m2, rfl, x0, x1, x2, x3, hft⟩ := QH (C2.out.grown HG.out) HSB.out hjn
      have FTX := Lib.hid hft
      clear hft
      go_wp2_with (first
        | (go_at_call 185; (with_reducible refine (ih (FTX.out.qA d (zU (HG.out.trans' (za _ _))))).mono ?_); rintro e w5 ⟨q, rfl, hq, g5⟩; have G5 := Lib.hid ((HG.out.trans' (za _ _)).trans' g5); clear g5))
      go_roundg g
      case measure => omega
      case rel => exact ⟨G5.out, j + 1, k + q, by omega, rfl, rfl, by have := HKK.out; rw [Nat.add_mul]; omega⟩
    | zero =>
      have hjlt : ¬ ((j : Int) < ch.length) := by omega
      go_wp2_with fail
      go_ret
      exact ⟨k, rfl, by omega, HG.out⟩
theorem UH:∀ (d:Nat) {w:World}{lo:Nat}{v:Value},d≤10→FE lo d w v→Calls Tryz.prog 185 #[v] w (Zg (3 ^ d) w)
 | 0,_,_,_,_,h=>h.elim
 | d+1,_,_,_,hd,h=>mS (Nat.le_trans (Nat.pow_le_pow_right (by omega) (show d≤10 by omega)) (by decide)) (fun h'=>UH d (by omega) h') h
end MK
end
section
open Go Go.Proofs TR
namespace MK
open Go.AEv.GT (zO qq)
def D4 (w:World) (e:Ending) (w2:World):Prop:=∃ b:Bool,e = .returned (.bool b)∧Grown w w2
def kws:List ByteArray:=[⟨#[97,108,108]⟩,⟨#[97,110,100]⟩,⟨#[97,115,115,105,103,110]⟩,⟨#[98,121]⟩,⟨#[99,111,117,110,116]⟩,⟨#[100,101,99,108,97,114,101]⟩,⟨#[100,121,110,97,109,105,99]⟩,⟨#[101,110,102,111,114,99,101]⟩,⟨#[102,97,108,115,101]⟩,⟨#[102,111,114]⟩,⟨#[105,102]⟩,⟨#[109,101,109,98,101,114,115]⟩,⟨#[110,111,110,101]⟩,⟨#[110,111,116]⟩,⟨#[111,110]⟩,⟨#[111,114]⟩,⟨#[114,101,118,111,107,101]⟩,⟨#[115,116,97,116,105,99]⟩,⟨#[116,114,117,101]⟩,⟨#[117,115,101,114,115]⟩]
theorem nF {w:World}:Calls Tryz.prog 200 #[] w (fun e w2=>∃ b,e = .returned (.slice (some ⟨b,0,none⟩) 20 20)∧Cs w2 (some ⟨b,0,none⟩) (kws.map Value.string)∧Grown w w2):=by
 go_enter Tryz.func200,Tryz.ntmps200
 go_wp2
 go_ret
 exact ⟨w.heap.size,rfl,fun _=>⟨_,_,rfl,fun j u hj=>TR.cell_of_row (zn w (z:=(kws.map Value.string).toArray) (t:=9)) (by simpa using hj)⟩,za _ _⟩
theorem Qv {w : World} {s : ByteArray} (few : s.size ≤ 1000) : Calls Tryz.prog 134 #[.string s] w (D4 w) := by
  by_cases h0 : s.size = 0
  · have h0' : ((s.size : Int) == 0) = true := by rw [h0]; rfl
    go_enter Tryz.func134, Tryz.ntmps134
    go_wp2
    all_goals (go_ret; exact ⟨_, rfl, RD.zL _⟩)
  by_cases h12 : 12 < s.size
  · have h0' : ((s.size : Int) == 0) = false := beq_eq_false_iff_ne.2 (by omega)
    have h12' : (12 : Int) < s.size := by omega
    go_enter Tryz.func134, Tryz.ntmps134
    go_wp2
    all_goals (go_ret; exact ⟨_, rfl, RD.zL _⟩)
  · have h0' : ((s.size : Int) == 0) = false := beq_eq_false_iff_ne.2 (by omega)
    have h12' : ¬ (12 : Int) < s.size := by omega
    go_enter Tryz.func134, Tryz.ntmps134
    go_wp2
    go_loopg [3] s.size (fun g i wx => wx = w ∧ ∃ j : Nat, j + g = s.size ∧ i = .int .i64 j)
    case atStart => exact ⟨rfl, 0, by omega, rfl⟩
    case round =>
      obtain ⟨rfl, j, hj, rfl⟩ := hrel
      cases gk with
      | succ g =>
        have hjn : (j : Int) < s.size := by omega
        go_wp2
        all_goals first
          | (go_ret; exact ⟨_, rfl, RD.zL _⟩)
          | (go_roundg g
             case measure => omega
             case rel => first | exact ⟨rfl, j + 1, by omega, rfl⟩ | exact ⟨rfl, 1, by omega, rfl⟩)
      | zero =>
        have hjn : ¬ (j : Int) < s.size := by omega
        go_wp2_with (first
          | (go_at_call 200; (with_reducible refine nF.mono ?_); rintro e w2 ⟨b, rfl, hc, g2⟩; have CC := Lib.hid hc; have G2 := Lib.hid g2; clear hc g2))
        go_loopg [60] 20 (fun g i wx => Grown wr wx ∧ Cs wx (some ⟨b, 0, none⟩) (kws.map Value.string) ∧ ∃ j : Nat, j + g = 20 ∧ i = .int .i64 j)
        case atStart => exact ⟨G2.out, CC.out, 0, by omega, rfl⟩
        case round =>
          obtain ⟨hg, hc, j2, hj2, rfl⟩ := hrel
          have HG := Lib.hid hg
          have HC := Lib.hid hc
          cases gk with
          | succ g =>
            have h20 : (j2 : Int) < 20 := by omega
            obtain ⟨x, hx⟩ : ∃ x, (kws.map Value.string)[j2]? = some (.string x) := ⟨kws[j2]'(by show j2 < 20; omega), by rw [List.getElem?_map, List.getElem?_eq_getElem (show j2 < kws.length by show j2 < 20; omega)]; rfl⟩
            obtain ⟨b', o', e, hcc⟩ := hc (by decide)
            obtain ⟨rfl, rfl⟩ : b' = b ∧ o' = 0 := by cases e; exact ⟨rfl, rfl⟩
            have hcell := hcc _ _ hx
            rw [Nat.zero_add] at hcell
            clear hg hc hcc e hx
            go_wp2_with fail
            · go_ret; exact ⟨_, rfl, HG.out⟩
            · go_roundg g
              case measure => omega
              case rel => exact ⟨HG.out, HC.out, j2 + 1, by omega, rfl⟩
          | zero =>
            have h20 : ¬ (j2 : Int) < 20 := by omega
            clear hg hc
            go_wp2_with fail
            go_ret
            exact ⟨_, rfl, HG.out⟩
def Gu (w:World) (e:Ending) (w2:World):Prop:=∃ k:Nat,e = .returned (.int .i64 k)∧w2=w
theorem Zb {w:World}{p:Option Addr}{n c:Nat}{us:List Value}{s:ByteArray} (h:Cs w p us) (hn:us.length=n) (hu:∀ u∈us,∃ x,u = .string x) (few:n≤1000):Calls Tryz.prog 189 #[.slice p n c,.string s] w (Gu w):=by
 have H:=Lib.hid h
 have HU:=Lib.hid hu
 clear h hu
 go_enter Tryz.func189,Tryz.ntmps189
 go_wp2
 go_loopg [9] n (fun g i wx=>wx=w∧∃ j:Nat,j+g=n∧i = .int .i64 j)
 case atStart=>exact ⟨rfl,0,by omega,rfl⟩
 case round=>
  obtain ⟨rfl,j,hj,rfl⟩:=hrel
  cases gk with
  | succ g=>
   have hjn:(j:Int)<n:=by omega
   have hjl:j<us.length:=by omega
   obtain ⟨x,hx⟩:=HU.out _ (List.getElem_mem hjl)
   obtain ⟨b,o,rfl,hc⟩:=H.out (fun e=>by rw [e]at hjl;cases hjl)
   have hcell:=hc j _ (List.getElem?_eq_getElem hjl)
   rw [hx]at hcell
   clear hc hx
   go_wp2
   ·go_ret;exact ⟨j+1,rfl,rfl⟩
   ·go_roundg g
    case measure=>omega
    case rel=>exact ⟨rfl,j+1,by omega,rfl⟩
  | zero=>
   have hjn:¬ (j:Int)<n:=by omega
   go_wp2
   go_ret
   exact ⟨0,rfl,rfl⟩
end MK
end
section
open Go Go.Proofs
namespace MK
theorem iV:∀ p∈specs,mj Tryz.prog p.1 p.2:=by
 intro p hp
 simp only [specs,List.mem_cons,List.mem_nil_iff,or_false]at hp
 rcases hp with rfl | rfl | rfl | rfl | rfl | rfl | rfl | rfl | rfl | rfl
 iterate 3 · trivial
 ·exact ⟨Tryz.f287,Tryz.func287,by kernel_rfl,by kernel_rfl,by kernel_rfl,by kernel_rfl⟩
 ·exact ⟨Tryz.f413,Tryz.func413,by kernel_rfl,by kernel_rfl,by kernel_rfl,by kernel_rfl⟩
 ·exact ⟨#[3],22,⟨Tryz.f434,Tryz.func434,by kernel_rfl,by kernel_rfl,by kernel_rfl,by kernel_rfl⟩,by kernel_rfl,by kernel_rfl⟩
 ·exact ⟨Tryz.f183,Tryz.func183,by kernel_rfl,by kernel_rfl,by kernel_rfl,by kernel_rfl⟩
 ·exact ⟨Tryz.f393,Tryz.func393,by kernel_rfl,by kernel_rfl,by kernel_rfl,by kernel_rfl⟩
 ·trivial
 ·trivial
theorem lZ:QS zW=true:=by kernel_rfl
theorem DA [Unk] (l:List Fact):Fit (EA l):=bD YR bm iV
def ow (w:World):Prop:=@yR unkU Tryz.prog zW w
theorem Fk [Unk] {val:Nat→Value}:jw Tryz.prog zW (Bm val) um:=by
 have h:=Fl
 unfold sU at h
 exact nV (E:=EA []) (DA []) (by decide) VT (fun f hf=>by cases hf) lZ h trivial
theorem ig {w:World} (h:ow w):Calls Tryz.prog 5 #[] w fun e w2=>e = .returned (.bool true)∧Grown w w2:=by
 letI:=unkU
 have hk:=BV
 unfold ez at hk
 have:=bS (E:=EA [um]) (DA [um]) (by decide) (VT (val:=fun _=>.int .u8 0)) (fun f hf=>by rw [List.mem_singleton.1 hf];exact Fk) lZ hk trivial (w:=w) h
 exact (show Calls Tryz.prog 5 #[] w _ from this).mono fun e w2 hx=>⟨hx.2.1,hx.1⟩
end MK
end
end Go.AEv
