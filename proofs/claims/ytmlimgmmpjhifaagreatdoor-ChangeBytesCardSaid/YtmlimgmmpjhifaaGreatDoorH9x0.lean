/- A change is read from any bytes. Conditions: the bytes lie in memory. -/
import Derived.Test.YtmlimgmmpjhifaaGreatDoorL9a
set_option linter.all false
namespace Go.AEv
section
open Go Go.Proofs TR
open Go.AuditPlain (put zw qg)
namespace MK
open Go.AEv.GT (zO qq)
open RD (qe At AtU UP In S stU stB stF)
theorem j8 {M out l:List Nat}{s s':S} (h:s.2=true→M=out++s.1) (h2:s'.2=true→s.2=true∧s.1=l++s'.1):s'.2=true→M=(out++l)++s'.1:=fun hs=>by
 obtain ⟨a,b⟩:=h2 hs
 rw [h a,b,List.append_assoc]
theorem qX {b:Bool}{l:List Nat} (h:b=true):seg b l=l:=by subst h;rfl
theorem jl {b:Bool}{l:List Nat} (h:b=false):seg b l=[]:=by subst h;rfl
theorem dr:∀ v∈Wo,v.oneCell'=true:=by
 intro v hv
 simp at hv
 rcases hv with rfl | rfl | rfl | rfl<;>rfl
theorem QI {w:World}{b g:Nat}{s s':S} (h:AtU w b g s) {i:Int}{m v:Nat} (hi:i=(m:Int)) (hb:m≤9000000000000000000) (hr:stU m s=(v,s')):Calls Tryz.prog 30 #[.pointer (some ⟨b,0,none⟩),.int .i64 i] w (UP w b g s' (.int .i64 (v:Nat))):=by
 subst hi
 exact RD.xI h hb hr
theorem Xx {w:World}{b g:Nat}{s s':S} (h:AtU w b g s) {i:Int}{m:Nat}{v:List Nat} (hi:i=(m:Int)) (hb:m≤1000000) (hr:stB m s=(v,s')):Calls Tryz.prog 33 #[.pointer (some ⟨b,0,none⟩),.int .i64 i] w (UP w b g s' (.string (str v))):=by
 subst hi
 exact RD.Cq h hb hr
def RJ (w:World) (b g b5 b6:Nat) (M:List Nat) (k n:Nat) (i:Value) (wx:World):Prop:=∃ (j:Nat) (c:Pc) (s:S),j+n=6∧i = .int .i64 j∧RS w wx b g b5 b6 M (qj c j) s c∧c.k=k
end MK
end
end Go.AEv
