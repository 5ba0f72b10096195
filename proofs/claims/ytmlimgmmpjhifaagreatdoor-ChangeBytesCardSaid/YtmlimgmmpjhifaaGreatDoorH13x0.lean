/- Read, whatever the bytes are: the change whose encoding they are, or an error where they are no encoding. Conditions: the bytes lie in memory. -/
import Derived.Test.YtmlimgmmpjhifaaGreatDoorH12x0
set_option maxHeartbeats 8000000
set_option maxRecDepth 100000
set_option linter.all false
namespace Go.AEv
section
open Go Go.Proofs TR
open Go.AuditPlain (put zw qg yZ kX Ww)
namespace MK
open Go.AEv.GT (zO qq)
open RD (qe At AtU UP In S stU stB stF)
def DV (w:World) (M:List Nat) (e:Ending) (w2:World):Prop:=((∃ c:Pc,Nrm c∧1≤c.k∧M=enc c∧e = .returned (.tuple #[.agg c.cells.toArray,.int .i64 0]))∨(e = .returned (.tuple #[.agg Wo.toArray,.int .i64 6])∧∀ c:Pc,Nrm c→1≤c.k→M≠enc c))∧Grown w w2
def CB (c:Pc):Nat→Pc
 | 0=>⟨c.k,0,0,0,0,0,0,[],[],[],[],false⟩
 | 1=>⟨c.k,c.n0,0,0,0,0,0,[],[],[],[],false⟩
 | 2=>⟨c.k,c.n0,c.n1,0,0,0,0,[],[],[],[],false⟩
 | 3=>⟨c.k,c.n0,c.n1,c.n2,0,0,0,[],[],[],[],false⟩
 | 4=>⟨c.k,c.n0,c.n1,c.n2,c.n3,0,0,[],[],[],[],false⟩
 | 5=>⟨c.k,c.n0,c.n1,c.n2,c.n3,c.n4,0,[],[],[],[],false⟩
 | 6=>⟨c.k,c.n0,c.n1,c.n2,c.n3,c.n4,c.n5,[],[],[],[],false⟩
 | 7=>⟨c.k,c.n0,c.n1,c.n2,c.n3,c.n4,c.n5,c.nm,[],[],[],false⟩
 | 8=>⟨c.k,c.n0,c.n1,c.n2,c.n3,c.n4,c.n5,c.nm,c.tx,[],[],false⟩
 | _=>c
def tl9 (c:Pc):List Nat:=seg (useB c.k 8) (zw c.ac++zw c.pa++qg c.dp)
def tl8 (c:Pc):List Nat:=seg (useB c.k 7) (zw c.tx)++tl9 c
def tl7 (c:Pc):List Nat:=seg (useB c.k 6) (zw c.nm)++tl8 c
def tl6 (c:Pc):List Nat:=seg (useB c.k 5) (put c.n5)++tl7 c
def tl5 (c:Pc):List Nat:=seg (useB c.k 4) (put c.n4)++tl6 c
def tl4 (c:Pc):List Nat:=seg (useB c.k 3) (put c.n3)++tl5 c
def tl3 (c:Pc):List Nat:=seg (useB c.k 2) (put c.n2)++tl4 c
def tl2 (c:Pc):List Nat:=seg (useB c.k 1) (put c.n1)++tl3 c
def tl1 (c:Pc):List Nat:=seg (useB c.k 0) (put c.n0)++tl2 c
def tlJ (c:Pc):Nat→List Nat
 | 0=>tl1 c
 | 1=>tl2 c
 | 2=>tl3 c
 | 3=>tl4 c
 | 4=>tl5 c
 | 5=>tl6 c
 | 6=>tl7 c
 | 7=>tl8 c
 | 8=>tl9 c
 | _=>[]
theorem gF (c:Pc):enc c=put c.k++tl1 c:=by
 unfold enc tl1 tl2 tl3 tl4 tl5 tl6 tl7 tl8 tl9
 show put c.k++seg (useB c.k 0) (put c.n0)++seg (useB c.k 1) (put c.n1)++seg (useB c.k 2) (put c.n2)++seg (useB c.k 3) (put c.n3)++seg (useB c.k 4) (put c.n4)++seg (useB c.k 5) (put c.n5)++seg (useB c.k 6) (zw c.nm)++seg (useB c.k 7) (zw c.tx)++_=_
 simp only [List.append_assoc]
def Gd (M:List Nat) (j:Nat) (s:S) (c:Pc):Prop:=∀ z:Pc,Nrm z→M=enc z→s=(tlJ z j,true)∧c=CB z j
theorem Zs {m v:Nat}{l:List Nat} (h:v≤m) (hm:m<18446744073709551616):stU m (put v++l,true)=(v,(l,true)):=by
 unfold stU
 rw [if_pos rfl,RD.uint_put h hm]
theorem YJ {m:Nat}{v l:List Nat} (h:v.length≤m) (hm:m≤1000000):stB m (zw v++l,true)=(v,(l,true)):=by
 unfold stB
 rw [if_pos rfl,RD.n9 h hm]
theorem pj {v:Bool}{l:List Nat}:stF (qg v++l,true)=(v,(l,true)):=by
 unfold stF
 rw [if_pos rfl,RD.sF]
theorem sE {M:List Nat}{k:Nat}{s1:S} (h:stU 18 (M,true)=(k,s1)):Gd M 0 s1 ⟨k,0,0,0,0,0,0,[],[],[],[],false⟩:=by
 rintro z hz rfl
 rw [gF,Zs hz.k (by decide)]at h
 cases h
 exact ⟨rfl,rfl⟩
theorem Dm {M:List Nat}{s s':S}{c:Pc}{v:Nat} (h:Gd M 0 s c) (hs:stU 1000000 s=(v,s')) (hu:useB c.k 0=true):Gd M 1 s' { c with n0:=v }:=by
 intro z hz hM
 obtain ⟨rfl,rfl⟩:=h z hz hM
 have hu:useB z.k 0=true:=hu
 have e:tlJ z 0=put z.n0++tlJ z 1:=by show seg (useB z.k 0) _++_=_;rw [qX hu];rfl
 rw [e,Zs hz.n0.1 (by decide)]at hs
 cases hs
 exact ⟨rfl,rfl⟩
theorem Dy {M:List Nat}{s:S}{c:Pc} (h:Gd M 0 s c) (hu:useB c.k 0=false):Gd M 1 s c:=by
 intro z hz hM
 obtain ⟨rfl,rfl⟩:=h z hz hM
 have hu:useB z.k 0=false:=hu
 have e:tlJ z 0=tlJ z 1:=by show seg (useB z.k 0) _++_=_;rw [jl hu];rfl
 refine ⟨by rw [e],?_⟩
 show (⟨z.k,0,0,0,0,0,0,[],[],[],[],false⟩:Pc)=⟨z.k,z.n0,0,0,0,0,0,[],[],[],[],false⟩
 rw [hz.n0.2 hu]
theorem Dl {M:List Nat}{s s':S}{c:Pc}{v:Nat} (h:Gd M 1 s c) (hs:stU 1000000 s=(v,s')) (hu:useB c.k 1=true):Gd M 2 s' { c with n1:=v }:=by
 intro z hz hM
 obtain ⟨rfl,rfl⟩:=h z hz hM
 have hu:useB z.k 1=true:=hu
 have e:tlJ z 1=put z.n1++tlJ z 2:=by show seg (useB z.k 1) _++_=_;rw [qX hu];rfl
 rw [e,Zs hz.n1.1 (by decide)]at hs
 cases hs
 exact ⟨rfl,rfl⟩
theorem Dx {M:List Nat}{s:S}{c:Pc} (h:Gd M 1 s c) (hu:useB c.k 1=false):Gd M 2 s c:=by
 intro z hz hM
 obtain ⟨rfl,rfl⟩:=h z hz hM
 have hu:useB z.k 1=false:=hu
 have e:tlJ z 1=tlJ z 2:=by show seg (useB z.k 1) _++_=_;rw [jl hu];rfl
 refine ⟨by rw [e],?_⟩
 show (⟨z.k,z.n0,0,0,0,0,0,[],[],[],[],false⟩:Pc)=⟨z.k,z.n0,z.n1,0,0,0,0,[],[],[],[],false⟩
 rw [hz.n1.2 hu]
theorem Dk {M:List Nat}{s s':S}{c:Pc}{v:Nat} (h:Gd M 2 s c) (hs:stU 1000000 s=(v,s')) (hu:useB c.k 2=true):Gd M 3 s' { c with n2:=v }:=by
 intro z hz hM
 obtain ⟨rfl,rfl⟩:=h z hz hM
 have hu:useB z.k 2=true:=hu
 have e:tlJ z 2=put z.n2++tlJ z 3:=by show seg (useB z.k 2) _++_=_;rw [qX hu];rfl
 rw [e,Zs hz.n2.1 (by decide)]at hs
 cases hs
 exact ⟨rfl,rfl⟩
theorem Dw {M:List Nat}{s:S}{c:Pc} (h:Gd M 2 s c) (hu:useB c.k 2=false):Gd M 3 s c:=by
 intro z hz hM
 obtain ⟨rfl,rfl⟩:=h z hz hM
 have hu:useB z.k 2=false:=hu
 have e:tlJ z 2=tlJ z 3:=by show seg (useB z.k 2) _++_=_;rw [jl hu];rfl
 refine ⟨by rw [e],?_⟩
 show (⟨z.k,z.n0,z.n1,0,0,0,0,[],[],[],[],false⟩:Pc)=⟨z.k,z.n0,z.n1,z.n2,0,0,0,[],[],[],[],false⟩
 rw [hz.n2.2 hu]
theorem Dj {M:List Nat}{s s':S}{c:Pc}{v:Nat} (h:Gd M 3 s c) (hs:stU 1000000 s=(v,s')) (hu:useB c.k 3=true):Gd M 4 s' { c with n3:=v }:=by
 intro z hz hM
 obtain ⟨rfl,rfl⟩:=h z hz hM
 have hu:useB z.k 3=true:=hu
 have e:tlJ z 3=put z.n3++tlJ z 4:=by show seg (useB z.k 3) _++_=_;rw [qX hu];rfl
 rw [e,Zs hz.n3.1 (by decide)]at hs
 cases hs
 exact ⟨rfl,rfl⟩
theorem Dv {M:List Nat}{s:S}{c:Pc} (h:Gd M 3 s c) (hu:useB c.k 3=false):Gd M 4 s c:=by
 intro z hz hM
 obtain ⟨rfl,rfl⟩:=h z hz hM
 have hu:useB z.k 3=false:=hu
 have e:tlJ z 3=tlJ z 4:=by show seg (useB z.k 3) _++_=_;rw [jl hu];rfl
 refine ⟨by rw [e],?_⟩
 show (⟨z.k,z.n0,z.n1,z.n2,0,0,0,[],[],[],[],false⟩:Pc)=⟨z.k,z.n0,z.n1,z.n2,z.n3,0,0,[],[],[],[],false⟩
 rw [hz.n3.2 hu]
theorem Di {M:List Nat}{s s':S}{c:Pc}{v:Nat} (h:Gd M 4 s c) (hs:stU 1000000 s=(v,s')) (hu:useB c.k 4=true):Gd M 5 s' { c with n4:=v }:=by
 intro z hz hM
 obtain ⟨rfl,rfl⟩:=h z hz hM
 have hu:useB z.k 4=true:=hu
 have e:tlJ z 4=put z.n4++tlJ z 5:=by show seg (useB z.k 4) _++_=_;rw [qX hu];rfl
 rw [e,Zs hz.n4.1 (by decide)]at hs
 cases hs
 exact ⟨rfl,rfl⟩
theorem Du {M:List Nat}{s:S}{c:Pc} (h:Gd M 4 s c) (hu:useB c.k 4=false):Gd M 5 s c:=by
 intro z hz hM
 obtain ⟨rfl,rfl⟩:=h z hz hM
 have hu:useB z.k 4=false:=hu
 have e:tlJ z 4=tlJ z 5:=by show seg (useB z.k 4) _++_=_;rw [jl hu];rfl
 refine ⟨by rw [e],?_⟩
 show (⟨z.k,z.n0,z.n1,z.n2,z.n3,0,0,[],[],[],[],false⟩:Pc)=⟨z.k,z.n0,z.n1,z.n2,z.n3,z.n4,0,[],[],[],[],false⟩
 rw [hz.n4.2 hu]
theorem Dh {M:List Nat}{s s':S}{c:Pc}{v:Nat} (h:Gd M 5 s c) (hs:stU 1000000 s=(v,s')) (hu:useB c.k 5=true):Gd M 6 s' { c with n5:=v }:=by
 intro z hz hM
 obtain ⟨rfl,rfl⟩:=h z hz hM
 have hu:useB z.k 5=true:=hu
 have e:tlJ z 5=put z.n5++tlJ z 6:=by show seg (useB z.k 5) _++_=_;rw [qX hu];rfl
 rw [e,Zs hz.n5.1 (by decide)]at hs
 cases hs
 exact ⟨rfl,rfl⟩
theorem Dt {M:List Nat}{s:S}{c:Pc} (h:Gd M 5 s c) (hu:useB c.k 5=false):Gd M 6 s c:=by
 intro z hz hM
 obtain ⟨rfl,rfl⟩:=h z hz hM
 have hu:useB z.k 5=false:=hu
 have e:tlJ z 5=tlJ z 6:=by show seg (useB z.k 5) _++_=_;rw [jl hu];rfl
 refine ⟨by rw [e],?_⟩
 show (⟨z.k,z.n0,z.n1,z.n2,z.n3,z.n4,0,[],[],[],[],false⟩:Pc)=⟨z.k,z.n0,z.n1,z.n2,z.n3,z.n4,z.n5,[],[],[],[],false⟩
 rw [hz.n5.2 hu]
theorem Dg {M:List Nat}{s s':S}{c:Pc}{v:List Nat} (h:Gd M 6 s c) (hs:stB 12 s=(v,s')) (hu:useB c.k 6=true):Gd M 7 s' { c with nm:=v }:=by
 intro z hz hM
 obtain ⟨rfl,rfl⟩:=h z hz hM
 have hu:useB z.k 6=true:=hu
 have e:tlJ z 6=zw z.nm++tlJ z 7:=by show seg (useB z.k 6) _++_=_;rw [qX hu];rfl
 rw [e,YJ hz.nm.1 (by decide)]at hs
 cases hs
 exact ⟨rfl,rfl⟩
theorem Ds {M:List Nat}{s:S}{c:Pc} (h:Gd M 6 s c) (hu:useB c.k 6=false):Gd M 7 s c:=by
 intro z hz hM
 obtain ⟨rfl,rfl⟩:=h z hz hM
 have hu:useB z.k 6=false:=hu
 have e:tlJ z 6=tlJ z 7:=by show seg (useB z.k 6) _++_=_;rw [jl hu];rfl
 refine ⟨by rw [e],?_⟩
 show (⟨z.k,z.n0,z.n1,z.n2,z.n3,z.n4,z.n5,[],[],[],[],false⟩:Pc)=⟨z.k,z.n0,z.n1,z.n2,z.n3,z.n4,z.n5,z.nm,[],[],[],false⟩
 rw [hz.nm.2 hu]
theorem Df {M:List Nat}{s s':S}{c:Pc}{v:List Nat} (h:Gd M 7 s c) (hs:stB 8000 s=(v,s')) (hu:useB c.k 7=true):Gd M 8 s' { c with tx:=v }:=by
 intro z hz hM
 obtain ⟨rfl,rfl⟩:=h z hz hM
 have hu:useB z.k 7=true:=hu
 have e:tlJ z 7=zw z.tx++tlJ z 8:=by show seg (useB z.k 7) _++_=_;rw [qX hu];rfl
 rw [e,YJ hz.tx.1 (by decide)]at hs
 cases hs
 exact ⟨rfl,rfl⟩
theorem Dr {M:List Nat}{s:S}{c:Pc} (h:Gd M 7 s c) (hu:useB c.k 7=false):Gd M 8 s c:=by
 intro z hz hM
 obtain ⟨rfl,rfl⟩:=h z hz hM
 have hu:useB z.k 7=false:=hu
 have e:tlJ z 7=tlJ z 8:=by show seg (useB z.k 7) _++_=_;rw [jl hu];rfl
 refine ⟨by rw [e],?_⟩
 show (⟨z.k,z.n0,z.n1,z.n2,z.n3,z.n4,z.n5,z.nm,[],[],[],false⟩:Pc)=⟨z.k,z.n0,z.n1,z.n2,z.n3,z.n4,z.n5,z.nm,z.tx,[],[],false⟩
 rw [hz.tx.2 hu]
theorem De {M:List Nat}{s t1 t2 t3:S}{c:Pc}{v1 v2:List Nat}{v3:Bool} (h:Gd M 8 s c) (h1:stB 12 s=(v1,t1)) (h2:stB 104 t1=(v2,t2)) (h3:stF t2=(v3,t3)) (hu:useB c.k 8=true):Gd M 9 t3 { c with ac:=v1,pa:=v2,dp:=v3 }:=by
 intro z hz hM
 obtain ⟨rfl,rfl⟩:=h z hz hM
 have hu:useB z.k 8=true:=hu
 have e:tlJ z 8=zw z.ac++(zw z.pa++(qg z.dp++[])):=by show seg (useB z.k 8) _=_;rw [qX hu];simp only [List.append_assoc,List.append_nil]
 rw [e,YJ hz.ac.1 (by decide)]at h1
 cases h1
 rw [YJ hz.pa.1 (by decide)]at h2
 cases h2
 rw [pj]at h3
 cases h3
 exact ⟨rfl,rfl⟩
theorem Dq {M:List Nat}{s:S}{c:Pc} (h:Gd M 8 s c) (hu:useB c.k 8=false):Gd M 9 s c:=by
 intro z hz hM
 obtain ⟨rfl,rfl⟩:=h z hz hM
 have hu:useB z.k 8=false:=hu
 have e:tlJ z 8=[]:=by show seg (useB z.k 8) _=_;rw [jl hu]
 refine ⟨by rw [e];rfl,?_⟩
 show (⟨z.k,z.n0,z.n1,z.n2,z.n3,z.n4,z.n5,z.nm,z.tx,[],[],false⟩:Pc)=⟨z.k,z.n0,z.n1,z.n2,z.n3,z.n4,z.n5,z.nm,z.tx,z.ac,z.pa,z.dp⟩
 rw [hz.ac.2 hu,hz.pa.2 hu,hz.dp hu]
theorem Bt {M:List Nat}{s:S}{c:Pc} (h:Gd M 9 s c) (hk:c.k=0):∀ z:Pc,Nrm z→1≤z.k→M≠enc z:=by
 intro z hz hk1 hM
 obtain ⟨_,h2⟩:=h z hz hM
 have h3:c.k=z.k:=by rw [h2];rfl
 omega
theorem Dp {M:List Nat}{s:S}{c:Pc} (h:Gd M 9 s c) (he:(s.2&&s.1.isEmpty)=false):∀ z:Pc,Nrm z→1≤z.k→M≠enc z:=by
 intro z hz hk1 hM
 obtain ⟨rfl,rfl⟩:=h z hz hM
 cases he
def RH (w:World) (b g b5 b6:Nat) (M:List Nat) (k n:Nat) (i:Value) (wx:World):Prop:=∃ (j:Nat) (c:Pc) (s:S),j+n=6∧i = .int .i64 j∧RS w wx b g b5 b6 M (qj c j) s c∧c.k=k∧Gd M j s c
theorem xu {w:World}{p:Option Addr}{c0:Nat}{M:List Nat} (hM:In w p M) (hlen:M.length≤100000):Calls Tryz.prog 7 #[.slice p M.length c0] w (DV w M):=by
 have gz:=za w (.cells #[.int .u8 0,.int .i64 0,.int .i64 0,.int .i64 0,.int .i64 0,.int .i64 0,.int .i64 0,.string ⟨#[]⟩,.string ⟨#[]⟩,.string ⟨#[]⟩,.string ⟨#[]⟩,.bool false] 34)
 have HM:=Lib.hid (show In (w.alloc (.cells #[.int .u8 0,.int .i64 0,.int .i64 0,.int .i64 0,.int .i64 0,.int .i64 0,.int .i64 0,.string ⟨#[]⟩,.string ⟨#[]⟩,.string ⟨#[]⟩,.string ⟨#[]⟩,.bool false] 34)) p M from ⟨hM.1,fun h=>by obtain ⟨b,o,e,hc⟩:=hM.2 h;exact ⟨b,o,e,fun i x hx=>RD.ze (hc i x hx) gz⟩⟩)
 have HL:=Lib.hid hM.1
 obtain ⟨k,s1,hs1⟩:∃ k s1,stU 18 (M,true)=(k,s1):=⟨_,_,rfl⟩
 obtain ⟨k18,hcan1,hlt1⟩:=iT hs1 hM.1
 have GD0:=Lib.hid (sE hs1)
 have HS1:=Lib.hid hs1
 have HC1:=Lib.hid hcan1
 have HT1:=Lib.hid hlt1
 clear hM gz hs1 hcan1 hlt1
 go_enter Tryz.func7,Tryz.ntmps7
 go_upto_region 4 with (first
  | (go_at_call 29;(with_reducible refine (fW HM.out hlen (by rw [zQ];omega)).mono ?_);rintro e w2 ⟨b,g,rfl,hat,g2,hb1,hb2,hb3⟩;have A2:=Lib.hid hat;have G2:=Lib.hid g2;rw [zQ]at hb1;clear hat g2)
  | (go_at_call 30;(with_reducible refine (QI A2.out (i:=18) (m:=18) rfl (by decide) HS1.out).mono ?_);rintro e w3 ⟨rfl,hat3,ho3⟩;have A3:=Lib.hid hat3;have O3:=Lib.hid ho3;clear hat3 ho3)
  | (go_at_call 31;(with_reducible refine (uses31_call (k:=k) (by omega)).mono ?_);rintro e w4 ⟨rfl,g4⟩;have G4:=Lib.hid g4;clear g4))
 have GX:=Lib.hid (((za w3 (.cells #[.int .u8 (k:Nat),.int .i64 0,.int .i64 0,.int .i64 0,.int .i64 0,.int .i64 0,.int .i64 0,.string ⟨#[]⟩,.string ⟨#[]⟩,.string ⟨#[]⟩,.string ⟨#[]⟩,.bool false] 34)).trans' G4.out).trans' (za w4 (.cells #[.bool (useB k 0),.bool (useB k 1),.bool (useB k 2),.bool (useB k 3),.bool (useB k 4),.bool (useB k 5),.bool (useB k 6),.bool (useB k 7),.bool (useB k 8)] 78)))
 have S0:RowKit.Hid (RS w (w4.alloc (.cells #[.bool (useB k 0),.bool (useB k 1),.bool (useB k 2),.bool (useB k 3),.bool (useB k 4),.bool (useB k 5),.bool (useB k 6),.bool (useB k 7),.bool (useB k 8)] 78)) b g w3.heap.size w4.heap.size M (put k) s1 ⟨k,0,0,0,0,0,0,[],[],[],[],false⟩):=Lib.hid ⟨(ji ((za w _).trans' G2.out) O3.out (by omega)).trans' GX.out,AtU.grown A3.out GX.out,zk GX.out (qv (zk G2.out (zn w)) O3.out (by show w.heap.size≠b;omega)),zk (G4.out.trans' (za _ _)) (zn w3),zn w4,by omega,hb2,Nat.lt_of_lt_of_le hb3 O3.out.size,by have:=G4.out.size;rw [zQ]at this;omega,fun h=>(HC1.out h).2,HT1.out,⟨k18,⟨Nat.zero_le _,fun _=>rfl⟩,⟨Nat.zero_le _,fun _=>rfl⟩,⟨Nat.zero_le _,fun _=>rfl⟩,⟨Nat.zero_le _,fun _=>rfl⟩,⟨Nat.zero_le _,fun _=>rfl⟩,⟨Nat.zero_le _,fun _=>rfl⟩,⟨Nat.zero_le _,fun _=>rfl⟩,⟨Nat.zero_le _,fun _=>rfl⟩,⟨Nat.zero_le _,fun _=>rfl⟩,⟨Nat.zero_le _,fun _=>rfl⟩,fun _=>rfl⟩⟩
 obtain ⟨b5,hb5⟩:∃ b5,b5=w3.heap.size:=⟨_,rfl⟩
 obtain ⟨b6,hb6⟩:∃ b6,b6=w4.heap.size:=⟨_,rfl⟩
 obtain ⟨W5,hW5⟩:∃ W5,W5=w4.alloc (.cells #[.bool (useB k 0),.bool (useB k 1),.bool (useB k 2),.bool (useB k 3),.bool (useB k 4),.bool (useB k 5),.bool (useB k 6),.bool (useB k 7),.bool (useB k 8)] 78):=⟨_,rfl⟩
 rw [← hb5,← hb6,← hW5]at S0
 rw [← hb5,← hb6,← hW5]
 clear hb5 hb6 hW5 GX HM HC1 HT1 HS1 A3 O3 A2 G2 G4
 go_cut [18,19] from 7 to 65 (fun s18 s19 wx=>s18=WZ b5∧s19 = .int .i64 0∧RS w wx b g b5 b6 M (put k) s1 ⟨k,0,0,0,0,0,0,[],[],[],[],false⟩)
 case first=>
  go_wp2_with (first
   | (go_at_call 32;(with_reducible refine (ZM S0.out.x).mono ?_);rintro e w6 ⟨rfl,g6⟩;have S1:=Lib.hid (S0.out.grown g6);clear g6))
  go_meet
  case rel=>exact ⟨rfl,rfl,S1.out⟩
 case rest=>
  obtain ⟨rfl,rfl,hst⟩:=hcut
  have S2:=Lib.hid hst
  clear hst S0
  go_wp2_with fail
  go_loopg [19] 6 (fun n i wx=>RH w b g b5 b6 M k n i wx)
  case atStart=>exact ⟨0,⟨k,0,0,0,0,0,0,[],[],[],[],false⟩,s1,rfl,rfl,S2.out,rfl,GD0.out⟩
  case round=>
   obtain ⟨j,c,s,hj,hi,hst,hck,hgd⟩:=hrel
   have GDJ:=Lib.hid hgd
   clear hgd
   have SJ:=Lib.hid hst
   have HCK:=Lib.hid hck
   clear hst S2 hck
   cases gk with
   | succ n=>
    have f0:=(zc (k:=0) SJ.out.f rfl).1
    have hj6:j=0∨j=1∨j=2∨j=3∨j=4∨j=5:=by omega
    obtain ⟨v,s',hs⟩:∃ v s',stU 1000000 s=(v,s'):=⟨_,_,rfl⟩
    obtain ⟨hvm,hcan,hlt⟩:=iT hs SJ.out.lt
    have HS:=Lib.hid hs
    have HCN:=Lib.hid hcan
    have HLT:=Lib.hid hlt
    clear hs hcan hlt
    rcases hj6 with rfl | rfl | rfl | rfl | rfl | rfl
    ·have hi':_=Value.int .i64 0:=hi
     subst hi'
     have fj:=(zc (k:=0) SJ.out.f rfl).1
     have hp:=fun w1=>(jh b5 w1).1
     go_wp2_with (first
      | (go_at_call 30;(with_reducible refine (QI SJ.out.at_ (i:=1000000) (m:=1000000) rfl (by decide) HS.out).mono ?_);rintro e w7 hup;have UPH:=Lib.hid hup;have S7:=Lib.hid (SJ.out.next hup (j8 SJ.out.can HCN.out) HLT.out);obtain ⟨rfl,_,_⟩:=hup;obtain ⟨xj,yj⟩:=zc (k:=1) S7.out.x rfl))
     ·have hu:useB c.k 0=true:=‹useB c.k 0=true›
      go_roundg n
      case measure=>omega
      case rel=>exact ⟨1,{ c with n0:=v },s',by omega,rfl,S7.out.put (c':={ c with n0:=v }) (zD S7.out.x (k:=1) (show 1<12 by omega)) rfl (by show qj c 0++seg (useB c.k 0) (put v)=_;rw [qX hu]) { S7.out.nrm with n0:=⟨hvm,fun h=>by have h:useB c.k 0=false:=h;rw [hu]at h;cases h⟩ },HCK.out,Dm GDJ.out HS.out hu⟩
     ·have hu:useB c.k 0=false:=‹useB c.k 0=false›
      have ho:qj c (0+1)=qj c 0:=by show qj c 0++seg (useB c.k 0) _=_;rw [jl hu];exact List.append_nil _
      go_roundg n
      case measure=>omega
      case rel=>exact ⟨1,c,s,by omega,rfl,(by rw [ho];exact SJ.out),HCK.out,Dy GDJ.out hu⟩
    ·have hi':_=Value.int .i64 1:=hi
     subst hi'
     have fj:=(zc (k:=1) SJ.out.f rfl).1
     have hp:=fun w1=>(jh b5 w1).2.1
     go_wp2_with (first
      | (go_at_call 30;(with_reducible refine (QI SJ.out.at_ (i:=1000000) (m:=1000000) rfl (by decide) HS.out).mono ?_);rintro e w7 hup;have UPH:=Lib.hid hup;have S7:=Lib.hid (SJ.out.next hup (j8 SJ.out.can HCN.out) HLT.out);obtain ⟨rfl,_,_⟩:=hup;obtain ⟨xj,yj⟩:=zc (k:=2) S7.out.x rfl))
     ·have hu:useB c.k 1=true:=‹useB c.k 1=true›
      go_roundg n
      case measure=>omega
      case rel=>exact ⟨2,{ c with n1:=v },s',by omega,rfl,S7.out.put (c':={ c with n1:=v }) (zD S7.out.x (k:=2) (show 2<12 by omega)) rfl (by show qj c 1++seg (useB c.k 1) (put v)=_;rw [qX hu]) { S7.out.nrm with n1:=⟨hvm,fun h=>by have h:useB c.k 1=false:=h;rw [hu]at h;cases h⟩ },HCK.out,Dl GDJ.out HS.out hu⟩
     ·have hu:useB c.k 1=false:=‹useB c.k 1=false›
      have ho:qj c (1+1)=qj c 1:=by show qj c 1++seg (useB c.k 1) _=_;rw [jl hu];exact List.append_nil _
      go_roundg n
      case measure=>omega
      case rel=>exact ⟨2,c,s,by omega,rfl,(by rw [ho];exact SJ.out),HCK.out,Dx GDJ.out hu⟩
    ·have hi':_=Value.int .i64 2:=hi
     subst hi'
     have fj:=(zc (k:=2) SJ.out.f rfl).1
     have hp:=fun w1=>(jh b5 w1).2.2.1
     go_wp2_with (first
      | (go_at_call 30;(with_reducible refine (QI SJ.out.at_ (i:=1000000) (m:=1000000) rfl (by decide) HS.out).mono ?_);rintro e w7 hup;have UPH:=Lib.hid hup;have S7:=Lib.hid (SJ.out.next hup (j8 SJ.out.can HCN.out) HLT.out);obtain ⟨rfl,_,_⟩:=hup;obtain ⟨xj,yj⟩:=zc (k:=3) S7.out.x rfl))
     ·have hu:useB c.k 2=true:=‹useB c.k 2=true›
      go_roundg n
      case measure=>omega
      case rel=>exact ⟨3,{ c with n2:=v },s',by omega,rfl,S7.out.put (c':={ c with n2:=v }) (zD S7.out.x (k:=3) (show 3<12 by omega)) rfl (by show qj c 2++seg (useB c.k 2) (put v)=_;rw [qX hu]) { S7.out.nrm with n2:=⟨hvm,fun h=>by have h:useB c.k 2=false:=h;rw [hu]at h;cases h⟩ },HCK.out,Dk GDJ.out HS.out hu⟩
     ·have hu:useB c.k 2=false:=‹useB c.k 2=false›
      have ho:qj c (2+1)=qj c 2:=by show qj c 2++seg (useB c.k 2) _=_;rw [jl hu];exact List.append_nil _
      go_roundg n
      case measure=>omega
      case rel=>exact ⟨3,c,s,by omega,rfl,(by rw [ho];exact SJ.out),HCK.out,Dw GDJ.out hu⟩
    ·have hi':_=Value.int .i64 3:=hi
     subst hi'
     have fj:=(zc (k:=3) SJ.out.f rfl).1
     have hp:=fun w1=>(jh b5 w1).2.2.2.1
     go_wp2_with (first
      | (go_at_call 30;(with_reducible refine (QI SJ.out.at_ (i:=1000000) (m:=1000000) rfl (by decide) HS.out).mono ?_);rintro e w7 hup;have UPH:=Lib.hid hup;have S7:=Lib.hid (SJ.out.next hup (j8 SJ.out.can HCN.out) HLT.out);obtain ⟨rfl,_,_⟩:=hup;obtain ⟨xj,yj⟩:=zc (k:=4) S7.out.x rfl))
     ·have hu:useB c.k 3=true:=‹useB c.k 3=true›
      go_roundg n
      case measure=>omega
      case rel=>exact ⟨4,{ c with n3:=v },s',by omega,rfl,S7.out.put (c':={ c with n3:=v }) (zD S7.out.x (k:=4) (show 4<12 by omega)) rfl (by show qj c 3++seg (useB c.k 3) (put v)=_;rw [qX hu]) { S7.out.nrm with n3:=⟨hvm,fun h=>by have h:useB c.k 3=false:=h;rw [hu]at h;cases h⟩ },HCK.out,Dj GDJ.out HS.out hu⟩
     ·have hu:useB c.k 3=false:=‹useB c.k 3=false›
      have ho:qj c (3+1)=qj c 3:=by show qj c 3++seg (useB c.k 3) _=_;rw [jl hu];exact List.append_nil _
      go_roundg n
      case measure=>omega
      case rel=>exact ⟨4,c,s,by omega,rfl,(by rw [ho];exact SJ.out),HCK.out,Dv GDJ.out hu⟩
    ·have hi':_=Value.int .i64 4:=hi
     subst hi'
     have fj:=(zc (k:=4) SJ.out.f rfl).1
     have hp:=fun w1=>(jh b5 w1).2.2.2.2.1
     go_wp2_with (first
      | (go_at_call 30;(with_reducible refine (QI SJ.out.at_ (i:=1000000) (m:=1000000) rfl (by decide) HS.out).mono ?_);rintro e w7 hup;have UPH:=Lib.hid hup;have S7:=Lib.hid (SJ.out.next hup (j8 SJ.out.can HCN.out) HLT.out);obtain ⟨rfl,_,_⟩:=hup;obtain ⟨xj,yj⟩:=zc (k:=5) S7.out.x rfl))
     ·have hu:useB c.k 4=true:=‹useB c.k 4=true›
      go_roundg n
      case measure=>omega
      case rel=>exact ⟨5,{ c with n4:=v },s',by omega,rfl,S7.out.put (c':={ c with n4:=v }) (zD S7.out.x (k:=5) (show 5<12 by omega)) rfl (by show qj c 4++seg (useB c.k 4) (put v)=_;rw [qX hu]) { S7.out.nrm with n4:=⟨hvm,fun h=>by have h:useB c.k 4=false:=h;rw [hu]at h;cases h⟩ },HCK.out,Di GDJ.out HS.out hu⟩
     ·have hu:useB c.k 4=false:=‹useB c.k 4=false›
      have ho:qj c (4+1)=qj c 4:=by show qj c 4++seg (useB c.k 4) _=_;rw [jl hu];exact List.append_nil _
      go_roundg n
      case measure=>omega
      case rel=>exact ⟨5,c,s,by omega,rfl,(by rw [ho];exact SJ.out),HCK.out,Du GDJ.out hu⟩
    ·have hi':_=Value.int .i64 5:=hi
     subst hi'
     have fj:=(zc (k:=5) SJ.out.f rfl).1
     have hp:=fun w1=>(jh b5 w1).2.2.2.2.2
     go_wp2_with (first
      | (go_at_call 30;(with_reducible refine (QI SJ.out.at_ (i:=1000000) (m:=1000000) rfl (by decide) HS.out).mono ?_);rintro e w7 hup;have UPH:=Lib.hid hup;have S7:=Lib.hid (SJ.out.next hup (j8 SJ.out.can HCN.out) HLT.out);obtain ⟨rfl,_,_⟩:=hup;obtain ⟨xj,yj⟩:=zc (k:=6) S7.out.x rfl))
     ·have hu:useB c.k 5=true:=‹useB c.k 5=true›
      go_roundg n
      case measure=>omega
      case rel=>exact ⟨6,{ c with n5:=v },s',by omega,rfl,S7.out.put (c':={ c with n5:=v }) (zD S7.out.x (k:=6) (show 6<12 by omega)) rfl (by show qj c 5++seg (useB c.k 5) (put v)=_;rw [qX hu]) { S7.out.nrm with n5:=⟨hvm,fun h=>by have h:useB c.k 5=false:=h;rw [hu]at h;cases h⟩ },HCK.out,Dh GDJ.out HS.out hu⟩
     ·have hu:useB c.k 5=false:=‹useB c.k 5=false›
      have ho:qj c (5+1)=qj c 5:=by show qj c 5++seg (useB c.k 5) _=_;rw [jl hu];exact List.append_nil _
      go_roundg n
      case measure=>omega
      case rel=>exact ⟨6,c,s,by omega,rfl,(by rw [ho];exact SJ.out),HCK.out,Dt GDJ.out hu⟩
   | zero=>
    obtain rfl:j=6:=by omega
    have hi':_=Value.int .i64 6:=hi
    subst hi'
    have f0:=(zc (k:=0) SJ.out.f rfl).1
    have f6:=(zc (k:=6) SJ.out.f rfl).1
    go_upto_if 33 with fail
    go_cut [] from 7 to 65 (fun wx=>∃ (c:Pc) (s:S),RS w wx b g b5 b6 M (qj c 6++seg (useB c.k 6) (zw c.nm)) s c∧c.k=k∧Gd M 7 s c)
    case first=>
     obtain ⟨v,s',hs⟩:∃ v s',stB 12 s=(v,s'):=⟨_,_,rfl⟩
     obtain ⟨hvm,hcan,hlt⟩:=Vg hs SJ.out.lt
     have HS:=Lib.hid hs
     have HCN:=Lib.hid hcan
     have HLT:=Lib.hid hlt
     clear hs hcan hlt
     go_wp2_with (first
      | (go_at_call 33;(with_reducible refine (Xx SJ.out.at_ (i:=12) (m:=12) rfl (by decide) HS.out).mono ?_);rintro e w7 hup;have S7:=Lib.hid (SJ.out.next hup (j8 SJ.out.can HCN.out) HLT.out);obtain ⟨rfl,_,_⟩:=hup;obtain ⟨xj,yj⟩:=zc (k:=7) S7.out.x rfl;have x0:=(zc (k:=0) S7.out.x rfl).1))
     ·have hu:useB c.k 6=true:=‹useB c.k 6=true›
      go_meet
      case rel=>exact ⟨{ c with nm:=v },s',S7.out.put (c':={ c with nm:=v }) (zD S7.out.x (k:=7) (show 7<12 by omega)) rfl (by show qj c 6++seg (useB c.k 6) (zw v)=_;rw [qX hu]) { S7.out.nrm with nm:=⟨hvm,fun h=>by have h:useB c.k 6=false:=h;rw [hu]at h;cases h⟩ },HCK.out,Dg GDJ.out HS.out hu⟩
     ·have hu:useB c.k 6=false:=‹useB c.k 6=false›
      go_meet
      case rel=>exact ⟨c,s,(by rw [jl hu,List.append_nil];exact SJ.out),HCK.out,Ds GDJ.out hu⟩
    case rest=>
     obtain ⟨ca,sa,hst,hcka,hgd⟩:=hcut
     have GDA:=Lib.hid hgd
     clear hgd
     have SA:=Lib.hid hst
     have HKA:=Lib.hid hcka
     clear hst hcka SJ HCK f0 f6
     have f0:=(zc (k:=0) SA.out.f rfl).1
     have f7:=(zc (k:=7) SA.out.f rfl).1
     go_upto_if 38 with fail
     go_cut [] from 7 to 65 (fun wx=>∃ (c:Pc) (s:S),RS w wx b g b5 b6 M (qj c 6++seg (useB c.k 6) (zw c.nm)++seg (useB c.k 7) (zw c.tx)) s c∧c.k=k∧Gd M 8 s c)
     case first=>
      obtain ⟨v,s',hs⟩:∃ v s',stB 8000 sa=(v,s'):=⟨_,_,rfl⟩
      obtain ⟨hvm,hcan,hlt⟩:=Vg hs SA.out.lt
      have HS:=Lib.hid hs
      have HCN:=Lib.hid hcan
      have HLT:=Lib.hid hlt
      clear hs hcan hlt
      go_wp2_with (first
       | (go_at_call 33;(with_reducible refine (Xx SA.out.at_ (i:=8000) (m:=8000) rfl (by decide) HS.out).mono ?_);rintro e w7 hup;have S7:=Lib.hid (SA.out.next hup (j8 SA.out.can HCN.out) HLT.out);obtain ⟨rfl,_,_⟩:=hup;obtain ⟨xj,yj⟩:=zc (k:=8) S7.out.x rfl;have x0:=(zc (k:=0) S7.out.x rfl).1))
      ·have hu:useB ca.k 7=true:=‹useB ca.k 7=true›
       go_meet
       case rel=>exact ⟨{ ca with tx:=v },s',S7.out.put (c':={ ca with tx:=v }) (zD S7.out.x (k:=8) (show 8<12 by omega)) rfl (by show qj ca 6++seg (useB ca.k 6) (zw ca.nm)++seg (useB ca.k 7) (zw v)=_;rw [qX hu]) { S7.out.nrm with tx:=⟨hvm,fun h=>by have h:useB ca.k 7=false:=h;rw [hu]at h;cases h⟩ },HKA.out,Df GDA.out HS.out hu⟩
      ·have hu:useB ca.k 7=false:=‹useB ca.k 7=false›
       go_meet
       case rel=>exact ⟨ca,sa,(by rw [jl hu,List.append_nil];exact SA.out),HKA.out,Dr GDA.out hu⟩
     case rest=>
      obtain ⟨cb,sb,hst,hckb,hgd⟩:=hcut
      have GDB:=Lib.hid hgd
      clear hgd
      have SB:=Lib.hid hst
      have HKB:=Lib.hid hckb
      clear hst hckb SA HKA f0 f7
      have f0:=(zc (k:=0) SB.out.f rfl).1
      have f8:=(zc (k:=8) SB.out.f rfl).1
      go_upto_if 43 with fail
      go_cut [] from 7 to 65 (fun wx=>∃ (c:Pc) (s:S),RS w wx b g b5 b6 M (enc c) s c∧c.k=k∧Gd M 9 s c)
      case first=>
       obtain ⟨v1,t1,hs1⟩:∃ v s',stB 12 sb=(v,s'):=⟨_,_,rfl⟩
       obtain ⟨hvm1,hcan1,hlt1⟩:=Vg hs1 SB.out.lt
       obtain ⟨v2,t2,hs2⟩:∃ v s',stB 104 t1=(v,s'):=⟨_,_,rfl⟩
       obtain ⟨hvm2,hcan2,hlt2⟩:=Vg hs2 hlt1
       obtain ⟨v3,t3,hs3⟩:∃ v s',stF t2=(v,s'):=⟨_,_,rfl⟩
       obtain ⟨hcan3,hlt3⟩:=tQ hs3 hlt2
       have HS1:=Lib.hid hs1
       have HS2:=Lib.hid hs2
       have HS3:=Lib.hid hs3
       have HCN:=Lib.hid (And.intro hcan1 (And.intro hcan2 hcan3))
       have HLT:=Lib.hid (And.intro hlt1 (And.intro hlt2 hlt3))
       clear hs1 hs2 hs3 hcan1 hcan2 hcan3 hlt1 hlt2 hlt3
       by_cases hu:useB cb.k 8=true
       ·have hnf:∀ {P:Prop},useB cb.k 8=false→P:=fun h=>by rw [hu]at h;cases h
        go_wp2_with (first
         | (go_at_call 33;(with_reducible refine (Xx SB.out.at_ (i:=12) (m:=12) rfl (by decide) HS1.out).mono ?_);rintro e w7 hup;have S7:=Lib.hid (SB.out.next hup (j8 SB.out.can HCN.out.1) HLT.out.1);obtain ⟨rfl,_,_⟩:=hup;obtain ⟨x9,y9⟩:=zc (k:=9) S7.out.x rfl;have x0:=(zc (k:=0) S7.out.x rfl).1;have S7':=Lib.hid (S7.out.put (c':={ cb with ac:=v1 }) (zD S7.out.x (k:=9) (show 9<12 by omega)) rfl rfl { S7.out.nrm with ac:=⟨hvm1,fun h=>hnf h⟩ }))
         | (go_at_call 33;(with_reducible refine (Xx S7'.out.at_ (i:=104) (m:=104) rfl (by decide) HS2.out).mono ?_);rintro e w8 hup;have S8:=Lib.hid (S7'.out.next hup (j8 S7'.out.can HCN.out.2.1) HLT.out.2.1);obtain ⟨rfl,_,_⟩:=hup;clear x0 x9 y9;obtain ⟨x10,y10⟩:=zc (k:=10) S8.out.x rfl;have x9:=(zc (k:=9) S8.out.x rfl).1;have x0:=(zc (k:=0) S8.out.x rfl).1;have S8':=Lib.hid (S8.out.put (c':={ cb with ac:=v1,pa:=v2 }) (zD S8.out.x (k:=10) (show 10<12 by omega)) rfl rfl { S8.out.nrm with pa:=⟨hvm2,fun h=>hnf h⟩ }))
         | (go_at_call 34;(with_reducible refine (RD.Bw S8'.out.at_ HS3.out).mono ?_);rintro e w9 hup;have S9:=Lib.hid (S8'.out.next hup (j8 S8'.out.can HCN.out.2.2) HLT.out.2.2);obtain ⟨rfl,_,_⟩:=hup;clear x0 x10 y10 x9;obtain ⟨x11,y11⟩:=zc (k:=11) S9.out.x rfl;have x9:=(zc (k:=9) S9.out.x rfl).1;have x0:=(zc (k:=0) S9.out.x rfl).1))
        ·go_meet
         case rel=>exact ⟨{ cb with ac:=v1,pa:=v2,dp:=v3 },t3,S9.out.put (c':={ cb with ac:=v1,pa:=v2,dp:=v3 }) (zD S9.out.x (k:=11) (show 11<12 by omega)) rfl (by show qj cb 6++seg (useB cb.k 6) (zw cb.nm)++seg (useB cb.k 7) (zw cb.tx)++seg (useB cb.k 8) (zw v1++zw v2++qg v3)=_;rw [qX hu];simp only [List.append_assoc]) { S9.out.nrm with dp:=fun h=>hnf h },HKB.out,De GDB.out HS1.out HS2.out HS3.out hu⟩
        ·exact hnf ‹useB cb.k 8=false›
       ·have hu:useB cb.k 8=false:=by simpa using hu
        go_wp2_with fail
        go_meet
        case rel=>exact ⟨cb,sb,(by unfold enc;rw [jl hu,List.append_nil];exact SB.out),HKB.out,Dq GDB.out hu⟩
      case rest=>
       obtain ⟨cd,sd,hst,hckd,hgd⟩:=hcut
       have GDD:=Lib.hid hgd
       clear hgd
       have SD:=Lib.hid hst
       have HKD:=Lib.hid hckd
       clear hst hckd SB HKB f0 f8
       obtain ⟨x0,x1,x2,x3,x4,x5,x6,x7,x8,x9,x10,x11⟩:=qc SD.out.x
       by_cases he:(sd.2&&sd.1.isEmpty)=true
       ·have hsd:sd.2=true∧sd.1=[]:=by
         rw [Bool.and_eq_true]at he
         exact ⟨he.1,List.isEmpty_iff.1 he.2⟩
        have hM:M=enc cd:=by have:=SD.out.can hsd.1;rw [hsd.2,List.append_nil]at this;exact this
        have HMM:=Lib.hid hM
        have HEE:=Lib.hid he
        clear he hM hsd
        by_cases hk1:1≤cd.k
        ·go_wp2_with (first
          | (go_at_call 35;(with_reducible refine (sK SD.out.at_).mono ?_);rintro e w7 ⟨er,rfl,hz,rfl⟩;obtain rfl:er=0:=(by have:=hz.trans HEE.out;simpa using this))
          | (go_at_call 15;(with_reducible refine (qJ SD.out.nrm hk1).mono ?_);rintro e w8 ⟨rfl,g8⟩;have SE:=Lib.hid (SD.out.grown g8);clear g8 x0 x1 x2 x3 x4 x5 x6 x7 x8 x9 x10 x11;obtain ⟨x0,x1,x2,x3,x4,x5,x6,x7,x8,x9,x10,x11⟩:=qc SE.out.x)
          | (refine kO _ _ ZB SE.out.z rfl rfl (cs:=Pc.cells cd) (fO _) rfl rfl rfl rfl ?_;intro w9 k1 k2;have R9:=Lib.hid k1;have O9:=Lib.hid k2;clear k1 k2))
         refine bodyPost_ret (qH (p:=2) (ty:=34) rfl _ _ w.heap.size _ _ rfl (zS R9.out) under34 rfl ZB) rfl ?_
         exact ⟨.inl ⟨cd,SE.out.nrm,hk1,HMM.out,rfl⟩,ji SE.out.gr O9.out (Nat.le_refl _)⟩
        ·have hk0:cd.k=0:=by omega
         have HK0:=Lib.hid hk0
         clear hk0 hk1
         go_wp2_with (first
          | (go_at_call 35;(with_reducible refine (sK SD.out.at_).mono ?_);rintro e w7 ⟨er,rfl,hz,rfl⟩;obtain rfl:er=0:=(by have:=hz.trans HEE.out;simpa using this))
          | (go_at_call 15;(with_reducible refine (gS HK0.out).mono ?_);rintro e w8 ⟨rfl,g8⟩;have SE:=Lib.hid (SD.out.grown g8);clear g8)
          | (refine kO _ _ ZB SE.out.z rfl rfl (cs:=Wo) dr rfl rfl rfl rfl ?_;intro w9 k1 k2;have R9:=Lib.hid k1;have O9:=Lib.hid k2;clear k1 k2))
         refine bodyPost_ret (qH (p:=2) (ty:=34) rfl _ _ w.heap.size _ _ rfl (zS R9.out) under34 rfl ZB) rfl ?_
         exact ⟨.inr ⟨rfl,Bt GDD.out HK0.out⟩,ji SE.out.gr O9.out (Nat.le_refl _)⟩
       ·have he':(sd.2&&sd.1.isEmpty)=false:=by simpa using he
        have HEE:=Lib.hid he'
        clear he he'
        go_wp2_with (first
         | (go_at_call 35;(with_reducible refine (sK SD.out.at_).mono ?_);rintro e w7 ⟨er,rfl,hz,rfl⟩;have hne:(er==0)=false:=hz.trans HEE.out;have hne2:¬ er=0:=beq_eq_false_iff_ne.1 hne;clear hz)
         | (refine kO _ _ ZB SD.out.z rfl rfl (cs:=Wo) dr rfl rfl rfl rfl ?_;intro w9 k1 k2;have R9:=Lib.hid k1;have O9:=Lib.hid k2;clear k1 k2))
        refine bodyPost_ret (qH (p:=2) (ty:=34) rfl _ _ w.heap.size _ _ rfl (zS R9.out) under34 rfl ZB) rfl ?_
        exact ⟨.inr ⟨rfl,Dp GDD.out HEE.out⟩,ji SD.out.gr O9.out (Nat.le_refl _)⟩
theorem yX {u:Bool}{a b s t:List Nat}{P:Prop} (h:seg u a++s=seg u b++t) (hi:u=true→a++s=b++t→P∧s=t) (hf:u=false→P):P∧s=t:=by
 cases u with
 | true=>exact hi rfl h
 | false=>exact ⟨hf rfl,h⟩
theorem uY {a b:Pc} (ha:Nrz a) (hb:Nrm b) (h:enc a=enc b):a=b:=by
 rw [gF,gF]at h
 obtain ⟨hk,h⟩:=yZ h
 obtain ⟨k,a0,a1,a2,a3,a4,a5,anm,atx,aac,apa,adp⟩:=a
 obtain ⟨k',b0,b1,b2,b3,b4,b5,bnm,btx,bac,bpa,bdp⟩:=b
 have hk:k=k':=hk
 subst hk
 obtain ⟨e0,h⟩:=yX (P:=a0=b0) h (fun _ q=>yZ q) (fun q=>(ha.n0.2 q).trans (hb.n0.2 q).symm)
 obtain ⟨e1,h⟩:=yX (P:=a1=b1) h (fun _ q=>yZ q) (fun q=>(ha.n1.2 q).trans (hb.n1.2 q).symm)
 obtain ⟨e2,h⟩:=yX (P:=a2=b2) h (fun _ q=>yZ q) (fun q=>(ha.n2.2 q).trans (hb.n2.2 q).symm)
 obtain ⟨e3,h⟩:=yX (P:=a3=b3) h (fun _ q=>yZ q) (fun q=>(ha.n3.2 q).trans (hb.n3.2 q).symm)
 obtain ⟨e4,h⟩:=yX (P:=a4=b4) h (fun _ q=>yZ q) (fun q=>(ha.n4.2 q).trans (hb.n4.2 q).symm)
 obtain ⟨e5,h⟩:=yX (P:=a5=b5) h (fun _ q=>yZ q) (fun q=>(ha.n5.2 q).trans (hb.n5.2 q).symm)
 obtain ⟨e6,h⟩:=yX (P:=anm=bnm) h (fun _ q=>kX q) (fun q=>(ha.nm.2 q).trans (hb.nm.2 q).symm)
 obtain ⟨e7,h⟩:=yX (P:=atx=btx) h (fun _ q=>kX q) (fun q=>(ha.tx.2 q).trans (hb.tx.2 q).symm)
 have h9:(aac=bac∧apa=bpa∧adp=bdp)∧([]:List Nat)=[]:=yX (u:=useB k 8) (a:=zw aac++zw apa++qg adp) (b:=zw bac++zw bpa++qg bdp) (by rw [List.append_nil,List.append_nil];exact h) (fun _ q=>by
  rw [List.append_assoc,List.append_assoc,List.append_assoc,List.append_assoc]at q
  obtain ⟨q1,q⟩:=kX q
  obtain ⟨q2,q⟩:=kX q
  obtain ⟨q3,q⟩:=Ww q
  exact ⟨⟨q1,q2,q3⟩,q⟩) (fun q=>⟨(ha.ac.2 q).trans (hb.ac.2 q).symm,(ha.pa.2 q).trans (hb.pa.2 q).symm,(ha.dp q).trans (hb.dp q).symm⟩)
 obtain ⟨⟨e8,e9,e10⟩,_⟩:=h9
 subst e0 e1 e2 e3 e4 e5 e6 e7 e8 e9 e10
 rfl
end MK
end
end Go.AEv
