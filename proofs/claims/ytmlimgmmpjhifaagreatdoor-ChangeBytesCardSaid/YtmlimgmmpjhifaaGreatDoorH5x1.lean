/- Words, numbers and permissions out of bytes. Conditions: none. -/
import Derived.Test.YtmlimgmmpjhifaaGreatDoorL5a
set_option maxHeartbeats 8000000
set_option maxRecDepth 100000
set_option linter.all false
namespace Go.AEv
section
open Go Go.Proofs TR
namespace MK
open Go.AEv.GT (zO qq)
theorem gh {w w2:World}{l:List ByteArray}{t:TypeId}{k:Nat} (g:Grown (w.alloc (.cells (l.map Value.string).toArray t)) w2) (hk:k<l.length):∃ s,s∈l∧w2.cell? ⟨w.heap.size,k,none⟩=some (.string s):=by
 refine ⟨l[k],List.getElem_mem hk,?_⟩
 have h:=zk g (zn w (z:=(l.map Value.string).toArray) (t:=t))
 have hv:(l.map Value.string).toArray.toList[k]? = some (.string l[k]):=by simp [hk]
 exact (zc h hv).1
def eX:List ByteArray:=[⟨#[99,108,101,114,107]⟩,⟨#[97,117,100,105,116,111,114]⟩,⟨#[116,101,108,108,101,114]⟩,⟨#[104,114]⟩,⟨#[97]⟩,⟨#[98]⟩,⟨#[99,50]⟩,⟨#[120,95,49]⟩,⟨#[99,104,105,101,102]⟩,⟨#[110,117,114,115,101]⟩,⟨#[97,98,99,100,101,102,103,104,105,106,107,108]⟩,⟨#[97,98,99,100,101,102,103,104,105,106,107,108,109]⟩,⟨#[]⟩,⟨#[65]⟩,⟨#[50,110,100]⟩,⟨#[95,120]⟩,⟨#[97,45,98]⟩,⟨#[98,121]⟩,⟨#[117,115,101,114,115]⟩,⟨#[97,110,100]⟩]
theorem cI:∀ s∈eX,s.size≤13:=by decide
def ct:List ByteArray:=[⟨#[114,101,97,100]⟩,⟨#[119,114,105,116,101]⟩,⟨#[114,117,110]⟩]
theorem eQ:∀ s∈ct,s.size≤13:=by decide
def Vi:List ByteArray:=[⟨#[47]⟩,⟨#[47,97]⟩,⟨#[47,97,47,98]⟩,⟨#[47,97,47,98,47,99]⟩,⟨#[47,100]⟩,⟨#[47,100,47,101]⟩,⟨#[47,97,47,120]⟩,⟨#[47,102]⟩]
theorem aZ:∀ s∈Vi,s.size≤13:=by decide
theorem mn {w:World}{x:Nat} (hx:x<256):Calls Tryz.prog 21 #[.int .u8 x] w (jW 13 w):=by
 obtain ⟨s,hs,hc⟩:=gh (w:=w) (l:=eX) (t:=9) (k:=x % 20) (RD.zL _) (Nat.mod_lt _ (by decide))
 have hz:=cI s hs
 have h1:(0:Int)≤(x:Int) % 20:=by omega
 have h2:(x:Int) % 20<20:=by omega
 have hT:((x:Int) % 20).toNat=x % 20:=by omega
 unfold eX at hc
 dsimp only [List.map]at hc
 go_enter Tryz.func21,Tryz.ntmps21
 go_wp2
 go_ret
 exact ⟨s,rfl,hz,za _ _⟩
def DT (m:Nat) (w:World) (e:Ending) (w2:World):Prop:=∃ s:ByteArray,e = .returned (.string s)∧s.size≤m∧w2=w
theorem X8 {w:World}{n:Int} (h0:0≤n) (h9:n<10):Calls Tryz.prog 22 #[.int .i64 n] w (DT 1 w):=by
 have hr:=fun w=>Zm w (i:=n) h0 h9
 have hd:=kj n
 go_enter Tryz.func22,Tryz.ntmps22
 go_wp2
 go_ret
 exact ⟨_,rfl,hd,rfl⟩
theorem KF : ∀ (k : Nat), k ≤ 5 → ∀ {w : World} {i : Int} {n : Nat}, i = (n : Int) → n < 10 ^ (k + 1) → Calls Tryz.prog 22 #[.int .i64 i] w (DT (k + 1) w)
  | 0, _, w, i, n, hi, h => X8 (by omega) (by have : n < 10 := (by simpa using h); omega)
  | k + 1, hk, w, i, n, hi, h => by
    subst hi
    by_cases h9 : n < 10
    · exact (X8 (by omega) (by omega)).mono fun _ _ ⟨s, e, z, hw⟩ => ⟨s, e, by omega, hw⟩
    · have hq : n / 10 < 10 ^ (k + 1) := by
        have : 10 ^ (k + 1 + 1) = 10 ^ (k + 1) * 10 := by rw [Nat.pow_succ]
        omega
      have hn6 : n < 1000000 := Nat.lt_of_lt_of_le h (Nat.pow_le_pow_right (by omega) (show k + 1 + 1 ≤ 6 by omega))
      have h9' : ¬ (n : Int) < 10 := by omega
      have r0 : 0 ≤ (n : Int) % 10 := by omega
      have r9 : (n : Int) % 10 < 10 := by omega
      have HQ := Lib.hid hq
      clear hq h
      go_enter Tryz.func22, Tryz.ntmps22
      go_wp2_with (first
        | (go_at_call 22; (with_reducible refine (KF k (by omega) (i := (n : Int) / 10) (n := n / 10) (by omega) HQ.out).mono ?_); rintro e w2 ⟨s1, rfl, z1, rfl⟩)
        | (go_at_call 22; (with_reducible refine (X8 r0 r9).mono ?_); rintro e w3 ⟨s2, rfl, z2, rfl⟩))
      go_ret
      exact ⟨_, rfl, by rw [ByteArray.size_append]; omega, rfl⟩
theorem under27:Tryz.prog.underlying 27=some (.struct (Tryz.prog.fieldsOf 27)):=by kernel_rfl
theorem Bf:(Tryz.prog.info? 27).map (·.size)=some 3:=by kernel_rfl
theorem py {w:World}{b:Nat}{t:TypeId}{x0 x1 x2 v0 v1 v2:Value} (h:zx Tryz.prog w (b,0,0) t [x0,x1,x2]):zx Tryz.prog (((w.setCell ⟨b,0,none⟩ v0).setCell ⟨b,1,none⟩ v1).setCell ⟨b,2,none⟩ v2) (b,0,0) t [v0,v1,v2]:=by
 have h1:zx Tryz.prog (w.setCell ⟨b,0,none⟩ v0) (b,0,0) t [v0,x1,x2]:=zD h (k:=0) (show 0<3 by omega)
 have h2:zx Tryz.prog ((w.setCell ⟨b,0,none⟩ v0).setCell ⟨b,1,none⟩ v1) (b,0,0) t [v0,v1,x2]:=zD h1 (k:=1) (show 1<3 by omega)
 exact zD h2 (k:=2) (show 2<3 by omega)
end MK
end
end Go.AEv
