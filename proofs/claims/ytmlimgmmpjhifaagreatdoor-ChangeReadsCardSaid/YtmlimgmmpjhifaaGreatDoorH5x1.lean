/- Words, numbers and permissions out of bytes. Conditions: none. -/
import Derived.Test.YtmlimgmmpjhifaaGreatDoorL5a
set_option maxHeartbeats 8000000
set_option maxRecDepth 100000
set_option linter.all false
namespace Go.AEv
section
open Go Go.Proofs TR
namespace MK
open Go.AEv.GT (RwAt NewAt)
theorem lit_at {w w2:World}{l:List ByteArray}{t:TypeId}{k:Nat} (g:Grown (w.alloc (.cells (l.map Value.string).toArray t)) w2) (hk:k<l.length):∃ s,s∈l∧w2.cell? ⟨w.heap.size,k,none⟩=some (.string s):=by
 refine ⟨l[k],List.getElem_mem hk,?_⟩
 have h:=grown_row g (rowU_box w (z:=(l.map Value.string).toArray) (t:=t))
 have hv:(l.map Value.string).toArray.toList[k]? = some (.string l[k]):=by simp [hk]
 exact (rowU_cellF h hv).1
def words8:List ByteArray:=[⟨#[99,108,101,114,107]⟩,⟨#[97,117,100,105,116,111,114]⟩,⟨#[116,101,108,108,101,114]⟩,⟨#[104,114]⟩,⟨#[97]⟩,⟨#[98]⟩,⟨#[99,50]⟩,⟨#[120,95,49]⟩,⟨#[99,104,105,101,102]⟩,⟨#[110,117,114,115,101]⟩,⟨#[97,98,99,100,101,102,103,104,105,106,107,108]⟩,⟨#[97,98,99,100,101,102,103,104,105,106,107,108,109]⟩,⟨#[]⟩,⟨#[65]⟩,⟨#[50,110,100]⟩,⟨#[95,120]⟩,⟨#[97,45,98]⟩,⟨#[98,121]⟩,⟨#[117,115,101,114,115]⟩,⟨#[97,110,100]⟩]
theorem words8_size:∀ s∈words8,s.size≤13:=by decide
def acts24:List ByteArray:=[⟨#[114,101,97,100]⟩,⟨#[119,114,105,116,101]⟩,⟨#[114,117,110]⟩]
theorem acts24_size:∀ s∈acts24,s.size≤13:=by decide
def paths24:List ByteArray:=[⟨#[47]⟩,⟨#[47,97]⟩,⟨#[47,97,47,98]⟩,⟨#[47,97,47,98,47,99]⟩,⟨#[47,100]⟩,⟨#[47,100,47,101]⟩,⟨#[47,97,47,120]⟩,⟨#[47,102]⟩]
theorem paths24_size:∀ s∈paths24,s.size≤13:=by decide
theorem word_call {w:World}{x:Nat} (hx:x<256):Calls Tryz.prog 21 #[.int .u8 x] w (StrG 13 w):=by
 obtain ⟨s,hs,hc⟩:=lit_at (w:=w) (l:=words8) (t:=9) (k:=x % 20) (RD.grown_refl _) (Nat.mod_lt _ (by decide))
 have hz:=words8_size s hs
 have h1:(0:Int)≤(x:Int) % 20:=by omega
 have h2:(x:Int) % 20<20:=by omega
 have hT:((x:Int) % 20).toNat=x % 20:=by omega
 unfold words8 at hc
 dsimp only [List.map]at hc
 go_enter Tryz.func21,Tryz.ntmps21
 go_wp2
 go_ret
 exact ⟨s,rfl,hz,grown_alloc _ _⟩
theorem act_call {w:World}{y:Int} (h0:0≤y) (h3:y<3):Calls Tryz.prog 68 #[.int .u8 y] w (StrG 13 w):=by
 obtain ⟨x,rfl⟩:∃ x:Nat,y=x:=⟨y.toNat,by omega⟩
 obtain ⟨s,hs,hc⟩:=lit_at (w:=w) (l:=acts24) (t:=9) (k:=x) (RD.grown_refl _) (by show x<3;omega)
 have hz:=acts24_size s hs
 have hT:(x:Int) % 3=x:=by omega
 have h3':(x:Int)<3:=h3
 unfold acts24 at hc
 dsimp only [List.map]at hc
 go_enter Tryz.func68,Tryz.ntmps68
 go_wp2
 go_ret
 exact ⟨s,rfl,hz,grown_alloc _ _⟩
theorem path_call {w:World}{x:Nat} (hx:x<256):Calls Tryz.prog 69 #[.int .u8 x] w (StrG 13 w):=by
 obtain ⟨s,hs,hc⟩:=lit_at (w:=w) (l:=paths24) (t:=9) (k:=x % 8) (RD.grown_refl _) (Nat.mod_lt _ (by decide))
 have hz:=paths24_size s hs
 have h1:(0:Int)≤(x:Int) % 8:=by omega
 have h2:(x:Int) % 8<8:=by omega
 have hT:((x:Int) % 8).toNat=x % 8:=by omega
 unfold paths24 at hc
 dsimp only [List.map]at hc
 go_enter Tryz.func69,Tryz.ntmps69
 go_wp2
 go_ret
 exact ⟨s,rfl,hz,grown_alloc _ _⟩
def StrW (m:Nat) (w:World) (e:Ending) (w2:World):Prop:=∃ s:ByteArray,e = .returned (.string s)∧s.size≤m∧w2=w
theorem dec22_one {w:World}{n:Int} (h0:0≤n) (h9:n<10):Calls Tryz.prog 22 #[.int .i64 n] w (StrW 1 w):=by
 have hr:=fun w=>dig_slice w (i:=n) h0 h9
 have hd:=dig1_size n
 go_enter Tryz.func22,Tryz.ntmps22
 go_wp2
 go_ret
 exact ⟨_,rfl,hd,rfl⟩
theorem dec22_call : ∀ (k : Nat), k ≤ 5 → ∀ {w : World} {i : Int} {n : Nat}, i = (n : Int) → n < 10 ^ (k + 1) → Calls Tryz.prog 22 #[.int .i64 i] w (StrW (k + 1) w)
  | 0, _, w, i, n, hi, h => dec22_one (by omega) (by have : n < 10 := by simpa using h
                                                     omega)
  | k + 1, hk, w, i, n, hi, h => by
    subst hi
    by_cases h9 : n < 10
    · exact (dec22_one (by omega) (by omega)).mono fun _ _ ⟨s, e, z, hw⟩ => ⟨s, e, by omega, hw⟩
    · have hq : n / 10 < 10 ^ (k + 1) := by
        have : 10 ^ (k + 1 + 1) = 10 ^ (k + 1) * 10 := by rw [Nat.pow_succ]
        omega
      have hn6 : n < 1000000 := Nat.lt_of_lt_of_le h (Nat.pow_le_pow_right (by omega) (show k + 1 + 1 ≤ 6 by omega))
      have h9' : ¬ (n : Int) < 10 := by omega
      have r0 : 0 ≤ (n : Int) % 10 := by omega
      have r9 : (n : Int) % 10 < 10 := by omega
      have HQ := Lib.hid hq
      clear hq h
      go_enter Tryz.func22, Tryz.ntmps22
      go_wp2_with (first
        | (go_at_call 22; (with_reducible refine (dec22_call k (by omega) (i := (n : Int) / 10) (n := n / 10) (by omega) HQ.out).mono ?_); rintro e w2 ⟨s1, rfl, z1, rfl⟩)
        | (go_at_call 22; (with_reducible refine (dec22_one r0 r9).mono ?_); rintro e w3 ⟨s2, rfl, z2, rfl⟩))
      go_ret
      exact ⟨_, rfl, by rw [ByteArray.size_append]; omega, rfl⟩
theorem under27:Tryz.prog.underlying 27=some (.struct (Tryz.prog.fieldsOf 27)):=by kernel_rfl
theorem info27:(Tryz.prog.info? 27).map (·.size)=some 3:=by kernel_rfl
theorem under85:Tryz.prog.underlying 85=some (.struct (Tryz.prog.fieldsOf 85)):=by kernel_rfl
theorem info85:(Tryz.prog.info? 85).map (·.size)=some 9:=by kernel_rfl
def PermP (w:World) (e:Ending) (w2:World):Prop:=∃ (a p:ByteArray) (b:Bool),e = .returned (.agg #[.string a,.string p,.bool b])∧a.size≤13∧p.size≤13∧Grown w w2
theorem set3_row {w:World}{b:Nat}{t:TypeId}{x0 x1 x2 v0 v1 v2:Value} (h:RowAt Tryz.prog w (b,0,0) t [x0,x1,x2]):RowAt Tryz.prog (((w.setCell ⟨b,0,none⟩ v0).setCell ⟨b,1,none⟩ v1).setCell ⟨b,2,none⟩ v2) (b,0,0) t [v0,v1,v2]:=by
 have h1:RowAt Tryz.prog (w.setCell ⟨b,0,none⟩ v0) (b,0,0) t [v0,x1,x2]:=rowU_setk h (k:=0) (show 0<3 by omega)
 have h2:RowAt Tryz.prog ((w.setCell ⟨b,0,none⟩ v0).setCell ⟨b,1,none⟩ v1) (b,0,0) t [v0,v1,x2]:=rowU_setk h1 (k:=1) (show 1<3 by omega)
 exact rowU_setk h2 (k:=2) (show 2<3 by omega)
theorem perm_call {w:World}{x:Nat} (hx:x<256):Calls Tryz.prog 23 #[.int .u8 x] w (PermP w):=by
 go_enter Tryz.func23,Tryz.ntmps23
 go_wp2_with (first
  | (go_at_call 68;(with_reducible refine (act_call (by omega) (by omega)).mono ?_);rintro e w2 ⟨s1,rfl,z1,g2⟩;have G2:=Lib.hid ((grown_alloc w _).trans' g2);have R2:=Lib.hid (grown_row g2 (rowU_box w (z:=#[.string ⟨#[]⟩,.string ⟨#[]⟩,.bool false]) (t:=27)));clear g2)
  | (go_at_call 69;(with_reducible refine (path_call hx).mono ?_);rintro e w3 ⟨s2,rfl,z2,g3⟩;have G3:=Lib.hid (G2.out.trans' g3);have R3:=Lib.hid (grown_row g3 R2.out);clear g3;obtain ⟨c0,f0⟩:=rowU_cellF (k:=0) R3.out rfl;obtain ⟨c1,f1⟩:=rowU_cellF (k:=1) R3.out rfl;obtain ⟨c2,f2⟩:=rowU_cellF (k:=2) R3.out rfl))
 refine bodyPost_ret (results_cell_mid (p:=2) (ty:=27) rfl _ _ w.heap.size _ _ rfl (row_range (set3_row R3.out)) under27 rfl info27) rfl ?_
 exact ⟨s1,s2,_,rfl,z1,z2,grown_set (grown_set (grown_set G3.out (Nat.le_refl _)) (Nat.le_refl _)) (Nat.le_refl _)⟩
def UsesP (w:World) (e:Ending) (w2:World):Prop:=∃ b0 b1 b2 b3 b4 b5 b6 b7 b8:Bool,e = .returned (.agg #[.bool b0,.bool b1,.bool b2,.bool b3,.bool b4,.bool b5,.bool b6,.bool b7,.bool b8])∧Grown w w2
theorem uses25_call {w:World}{k:Int}:Calls Tryz.prog 36 #[.int .i64 k] w (UsesP w):=by
 go_enter Tryz.func36,Tryz.ntmps36
 go_wp2
 all_goals (
  refine bodyPost_ret (results_cell_mid (p:=2) (ty:=85) rfl _ _ w.heap.size _ _ rfl (row_range (rowU_box w)) under85 rfl info85) rfl ?_
  exact ⟨_,_,_,_,_,_,_,_,_,rfl,grown_alloc _ _⟩)
end MK
end
end Go.AEv
