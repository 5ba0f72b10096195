/- Changes, their encodings and texts: calls and runs (L10a). Conditions: those of each theorem. -/
import Derived.Test.YtmlimgmmpjhifaaGreatDoorH9x0
set_option maxHeartbeats 8000000
set_option maxRecDepth 100000
set_option linter.all false
namespace Go.AEv
section
open Go Go.Proofs TR
open Go.AuditPlain (hi put JU kG)
namespace MK
open Go.AEv.GT (zO qq)
theorem tm (n:Nat) (hn:n<2097152):bits .and .u64 (n:Int) 127=((n % 128:Nat):Int):=by
 have:=bits_mask .u64 64 (by decide) (fun n h₀ h₁=>IntWalk.u64_in _ (by omega)) 7 (by decide) (n:Int) (by omega) (by omega)
 have e1:((2:Int) ^ 7-1)=127:=by decide
 have e2:((2:Int) ^ 7)=128:=by decide
 rw [e1,e2]at this
 rw [this]
 omega
theorem pS:((List.range 128).all fun x=>decide (bits .or .u8 (x:Nat) 128=((x+128:Nat):Int)))=true:=by decide +kernel
theorem CM (n:Nat) (hn:n<2097152):bits .or .u8 (bits .and .u64 (n:Int) 127 % 256) 128=((n % 128+128:Nat):Int):=by
 rw [tm n hn,show ((n % 128:Nat):Int) % 256=((n % 128:Nat):Int) by omega]
 have:=List.all_eq_true.1 pS (n % 128) (List.mem_range.2 (Nat.mod_lt _ (by decide)))
 exact of_decide_eq_true this
theorem JH {w:World}{x:Nat×Nat×Nat}{k:Nat}{t:TypeId}{vs:List Value}{v:Value} (h:zx Tryz.prog w x t vs) (hk:k<vs.length):zx Tryz.prog (w.setCell ⟨x.1,x.2.1+k,none⟩ v) x t (vs.set k v):=by
 obtain ⟨arr,fz,h1,h2,h3,h4,h5⟩:=h
 refine ⟨arr.setIfInBounds (x.2.1+k) v,fz,?_,by rw [Array.size_setIfInBounds,List.length_set];exact h2,fun i hi=>h3 i (by rw [Array.size_setIfInBounds]at hi;exact hi),h4,fun j hj=>?_⟩
 ·unfold World.setCell
  show (w.heap.modify x.1 _)[x.1]? = _
  rw [Array.getElem?_modify,if_pos rfl]
  show Option.map _ w.heap[x.1]? = _
  rw [h1]
  rfl
 ·rw [List.length_set]at hj
  rw [Array.getElem?_setIfInBounds,List.getElem?_set]
  by_cases e:k=j
  ·subst e
   rw [if_pos rfl,if_pos rfl,if_pos (by omega),if_pos hk]
  ·rw [if_neg (by omega),if_neg e]
   exact h5 j hj
theorem Zh {w:World}{x:Nat×Nat×Nat}{k:Nat}{t:TypeId}{vs:List Value}{v:Value} (h:zx Tryz.prog w x t vs) (hk:vs[k]? = some v):w.cell? ⟨x.1,x.2.1+k,none⟩=some v∧w.frozen? ⟨x.1,x.2.1+k,none⟩=false:=by
 have hlt:=(List.getElem?_eq_some_iff.1 hk).1
 refine ⟨TR.cell_of_row h hk,?_⟩
 obtain ⟨arr,fz,h1,h2,h3,_⟩:=h
 unfold World.frozen?
 rw [h1]
 have:=h3 (x.2.1+k) (by omega)
 show (decide (fz.1≤x.2.1+k)&&decide (x.2.1+k<fz.2))=false
 rw [Bool.and_eq_false_iff,decide_eq_false_iff_not,decide_eq_false_iff_not]
 omega
theorem JC {w:World}{b o n c k:Nat}{v:Value}:qF (.slice (some ⟨b,o,none⟩) n c) w (w.setCell ⟨b,k,none⟩ v):=by
 refine ⟨fun j _ h=>?_,by unfold World.setCell;rw [Array.size_modify];exact Nat.le_refl _,rfl,rfl,rfl⟩
 unfold World.setCell
 rw [Array.getElem?_modify,if_neg (h _ _ _ rfl)]
theorem qF.aF {v:Value}{x y z:World} (h:qF v x y) (k:qF v y z):qF v x z:=
 ⟨fun c hc hn=>by rw [k.qA c (Nat.lt_of_lt_of_le hc h.size) hn,h.qA c hc hn],Nat.le_trans h.size k.size,k.tape.trans h.tape,k.os.trans h.os,k.output.trans h.output⟩
def oz (w0 w:World) (v:Value) (L:List Nat) (e:Ending) (w2:World):Prop:=e = .returned (.tuple #[])∧Bs w0 w2 v L∧qF v w w2
theorem Uu (v:Value) (w:World):qF v w w.drew:=⟨fun c hc _=>(zp w).old c hc,(zp w).size,(zp w).tape,(zp w).os,(zp w).output⟩
theorem eW (v:Value) (w:World):qF v w w:=⟨fun _ _ _=>rfl,Nat.le_refl _,rfl,rfl,rfl⟩
theorem Fh {w0 w:World}{v:Value}{a:Nat} (h:Bs w0 w v [a]):Calls Tryz.prog 129 #[v] w (oz w0 w v [a]):=by
 obtain ⟨x,hx,hr,hl⟩:∃ x:Nat×Nat×Nat,v = .slice (some ⟨x.1,x.2.1,none⟩) 1 (1+x.2.2)∧zx Tryz.prog w x 5 [.int .u8 (a:Nat)]∧w0.heap.size≤x.1:=by
  rcases h.row.ex with ⟨e,_⟩ | h
  ·cases e
  ·exact h
 have H:=Lib.hid h
 clear h
 subst hx
 go_enter Tryz.func129,Tryz.ntmps129
 go_wp2
 go_loopg [2,3] 0 (fun g i j wx=>i = .int .i64 0∧j = .int .i64 0∧wx=w)
 case atStart=>exact ⟨rfl,rfl,rfl⟩
 case round=>
  obtain ⟨rfl,rfl,rfl⟩:=hrel
  go_wp2
  exact ⟨rfl,_,results_none rfl _ _ _,rfl,H.out,eW _ _⟩
theorem aT {w0 w:World}{v:Value}{a b:Nat} (h:Bs w0 w v [a,b]):Calls Tryz.prog 129 #[v] w (oz w0 w v [b,a]):=by
 obtain ⟨x,hx,hr,hl⟩:∃ x:Nat×Nat×Nat,v = .slice (some ⟨x.1,x.2.1,none⟩) 2 (2+x.2.2)∧zx Tryz.prog w x 5 [.int .u8 (a:Nat),.int .u8 (b:Nat)]∧w0.heap.size≤x.1:=by
  rcases h.row.ex with ⟨e,_⟩ | h
  ·cases e
  ·exact h
 have hr1:=JH (k:=0) (v:=.int .u8 (b:Nat)) hr (by simp)
 have hr2:=JH (k:=1) (v:=.int .u8 (a:Nat)) hr1 (by simp)
 obtain ⟨c0,f0⟩:=Zh (k:=0) hr rfl
 obtain ⟨c1,f1⟩:=Zh (k:=1) hr rfl
 obtain ⟨d1,g1⟩:=Zh (k:=1) hr1 rfl
 have H:=Lib.hid h
 have R2:RowKit.Hid (Bs w0 ((w.setCell ⟨x.1,x.2.1+0,none⟩ (.int .u8 (b:Nat))).setCell ⟨x.1,x.2.1+1,none⟩ (.int .u8 (a:Nat))) v [b,a]∧qF v w ((w.setCell ⟨x.1,x.2.1+0,none⟩ (.int .u8 (b:Nat))).setCell ⟨x.1,x.2.1+1,none⟩ (.int .u8 (a:Nat)))):=by
  refine Lib.hid ?_
  have hw:qF v w ((w.setCell ⟨x.1,x.2.1+0,none⟩ (.int .u8 (b:Nat))).setCell ⟨x.1,x.2.1+1,none⟩ (.int .u8 (a:Nat))):=by rw [hx];exact qF.aF JC JC
  exact ⟨⟨⟨rfl,.inr ⟨x,hx,hr2,hl⟩⟩,fun y hy=>h.lt y (by simp at hy ⊢;omega),GT.jq h.g h.row hw⟩,hw⟩
 clear h hr hr1 hr2 hl
 subst hx
 obtain ⟨x,o,sp⟩:=x
 dsimp only at *
 rw [Nat.add_zero]at *
 go_enter Tryz.func129,Tryz.ntmps129
 go_wp2
 go_loopg [2,3] 1 (fun g i j wx=>(g=1∧i = .int .i64 0∧j = .int .i64 1∧wx=w)∨(i = .int .i64 1∧j = .int .i64 0∧oz w0 w (.slice (some ⟨x,o,none⟩) 2 (2+sp)) [b,a] (.returned (.tuple #[])) wx))
 case atStart=>exact .inl ⟨rfl,rfl,rfl,rfl⟩
 case round=>
  rcases hrel with ⟨rfl,rfl,rfl,rfl⟩ | ⟨rfl,rfl,hrv⟩
  ·go_wp2
   go_region_law fail
   all_goals (go_wp2;go_roundg 0;(case measure=>omega))
   all_goals (first
    | exact .inr ⟨rfl,rfl,rfl,R2.out⟩
    | exact .inr ⟨rfl,rfl,rfl,R2.out.1.grown (zp _),qF.aF R2.out.2 (Uu _ _)⟩)
  ·go_wp2
   exact ⟨rfl,_,results_none rfl _ _ _,hrv⟩
theorem Fg {w0 w:World}{v:Value}{a b d:Nat} (h:Bs w0 w v [a,b,d]):Calls Tryz.prog 129 #[v] w (oz w0 w v [d,b,a]):=by
 obtain ⟨x,hx,hr,hl⟩:∃ x:Nat×Nat×Nat,v = .slice (some ⟨x.1,x.2.1,none⟩) 3 (3+x.2.2)∧zx Tryz.prog w x 5 [.int .u8 (a:Nat),.int .u8 (b:Nat),.int .u8 (d:Nat)]∧w0.heap.size≤x.1:=by
  rcases h.row.ex with ⟨e,_⟩ | h
  ·cases e
  ·exact h
 have hr1:=JH (k:=0) (v:=.int .u8 (d:Nat)) hr (by simp)
 have hr2:=JH (k:=2) (v:=.int .u8 (a:Nat)) hr1 (by simp)
 obtain ⟨c0,f0⟩:=Zh (k:=0) hr rfl
 obtain ⟨c1,f1⟩:=Zh (k:=2) hr rfl
 obtain ⟨d1,g1⟩:=Zh (k:=2) hr1 rfl
 have R2:RowKit.Hid (Bs w0 ((w.setCell ⟨x.1,x.2.1+0,none⟩ (.int .u8 (d:Nat))).setCell ⟨x.1,x.2.1+2,none⟩ (.int .u8 (a:Nat))) v [d,b,a]∧qF v w ((w.setCell ⟨x.1,x.2.1+0,none⟩ (.int .u8 (d:Nat))).setCell ⟨x.1,x.2.1+2,none⟩ (.int .u8 (a:Nat)))):=by
  refine Lib.hid ?_
  have hw:qF v w ((w.setCell ⟨x.1,x.2.1+0,none⟩ (.int .u8 (d:Nat))).setCell ⟨x.1,x.2.1+2,none⟩ (.int .u8 (a:Nat))):=by rw [hx];exact qF.aF JC JC
  exact ⟨⟨⟨rfl,.inr ⟨x,hx,hr2,hl⟩⟩,fun y hy=>h.lt y (by simp at hy ⊢;omega),GT.jq h.g h.row hw⟩,hw⟩
 clear h hr hr1 hr2 hl
 subst hx
 obtain ⟨x,o,sp⟩:=x
 dsimp only at *
 rw [Nat.add_zero]at *
 go_enter Tryz.func129,Tryz.ntmps129
 go_wp2
 go_loopg [2,3] 1 (fun g i j wx=>(g=1∧i = .int .i64 0∧j = .int .i64 2∧wx=w)∨(i = .int .i64 1∧j = .int .i64 1∧oz w0 w (.slice (some ⟨x,o,none⟩) 3 (3+sp)) [d,b,a] (.returned (.tuple #[])) wx))
 case atStart=>exact .inl ⟨rfl,rfl,rfl,rfl⟩
 case round=>
  rcases hrel with ⟨rfl,rfl,rfl,rfl⟩ | ⟨rfl,rfl,hrv⟩
  ·go_wp2
   go_region_law fail
   all_goals (go_wp2;go_roundg 0;(case measure=>omega))
   all_goals (first
    | exact .inr ⟨rfl,rfl,rfl,R2.out⟩
    | exact .inr ⟨rfl,rfl,rfl,R2.out.1.grown (zp _),qF.aF R2.out.2 (Uu _ _)⟩)
  ·go_wp2
   exact ⟨rfl,_,results_none rfl _ _ _,hrv⟩
theorem pG {w0 w:World}{v:Value}{L:List Nat} (h:Bs w0 w v L) (h1:1≤L.length) (h3:L.length≤3):Calls Tryz.prog 129 #[v] w (oz w0 w v L.reverse):=by
 obtain ⟨a,rfl⟩ | ⟨a,b,rfl⟩ | ⟨a,b,d,rfl⟩:(∃ a,L=[a])∨(∃ a b,L=[a,b])∨(∃ a b d,L=[a,b,d]):=by
  rcases L with _ | ⟨a,_ | ⟨b,_ | ⟨d,_ | ⟨e,L⟩⟩⟩⟩
  ·simp at h1
  ·exact .inl ⟨_,rfl⟩
  ·exact .inr (.inl ⟨_,_,rfl⟩)
  ·exact .inr (.inr ⟨_,_,_,rfl⟩)
  ·simp at h3
 ·exact Fh h
 ·exact aT h
 ·exact Fg h
def Gw (w:World) (L:List Nat) (e:Ending) (w2:World):Prop:=∃ (p:Option Addr) (c:Nat),e = .returned (.slice p L.length c)∧Bs w w2 (.slice p L.length c) L
theorem ee {w:World}{n:Nat} (hn:n<2097152):Calls Tryz.prog 88 #[.int .u64 n] w (fun e w2=>Gw w (put n) e w2∧(put n).length≤3):=by
 have h127:=tm n hn
 have hmod:((n % 128:Nat):Int) % 256=((n % 128:Nat):Int):=by omega
 go_enter Tryz.func88,Tryz.ntmps88
 go_wp2
 go_loopg [0,3] 2 (fun g i v wx=>∃ (m:Nat) (L:List Nat),i = .int .u64 m∧m<128 ^ g∧m<2097152∧Bs w wx v L∧1≤L.length∧L.length+g≤3∧hi m++L.reverse=put n)
 case atStart=>exact ⟨n / 128,[n % 128],rfl,by show n / 128<16384;omega,by omega,ia (by omega) (RD.zL _) rfl (RD.zL _),Nat.le_refl _,Nat.le_refl _,rfl⟩
 case round=>
  obtain ⟨m,L,rfl,hm,hmb,hb,h1,h5,hp⟩:=hrel
  have HB:=Lib.hid hb
  have few:L.length≤100000:=by omega
  obtain ⟨p,c,e,hby,_⟩:=hb.byL few
  subst e
  have BY:=Lib.hid hby
  have HP:=Lib.hid hp
  clear hb hby hp
  by_cases hz:m=0
  ·subst hz
   go_wp2_with (first
    | (go_at_call 129;(with_reducible refine (pG HB.out h1 (by omega)).mono ?_);rintro e w2 ⟨rfl,hr,_⟩;have HR:=Lib.hid hr;clear hr))
   go_ret
   have e0:=HP.out
   rw [kG,List.nil_append]at e0
   rw [← e0,List.length_reverse]
   have:=HR.out
   exact ⟨⟨p,c,by show Ending.returned (.slice p L.length c)=_;rw [List.length_reverse],by rw [List.length_reverse];exact this⟩,by omega⟩
  ·cases gk with
   | zero=>exfalso;simp at hm;omega
   | succ g=>
    have hm0:(0:Int)<m:=by omega
    have hor:=CM m hmb
    have hq:m / 128<128 ^ g:=by
     have:128 ^ (g+1)=128 ^ g*128:=by rw [Nat.pow_succ]
     omega
    have HQ:=Lib.hid hq
    clear hm hq
    go_wp2_with (first
     | (at_builtin;refine yU _ _ rfl rfl (HB.out.grown (za _ _)) (Vw (y:=m % 128+128) (by omega) rfl) (by show L.length+1≤100000;omega) rfl ?_;intro v' w4 k1 _;have K1:=Lib.hid k1;clear k1))
    go_roundg g
    case measure=>omega
    case rel=>exact ⟨m / 128,_,rfl,HQ.out,by omega,K1.out,by rw [List.length_append];omega,by rw [List.length_append];show L.length+1+g≤3;omega,by rw [List.reverse_append,← HP.out,JU hz,List.append_assoc];rfl⟩
end MK
end
section
open Go Go.Proofs TR
open Go.AuditPlain (put zw qg)
namespace MK
open Go.AEv.GT (zO qq)
structure Wt (w0 w:World) (b:Nat) (L:List Nat):Prop where
 ex:∃ v,zx Tryz.prog w (b,0,0) 170 [v]∧Bs w0 w v L
 low:w0.heap.size≤b
def Fr (b:Nat) (w w2:World):Prop:=∀ c,c<w.heap.size→c≠b→(∀ a n m,w.cell? ⟨b,0,none⟩=some (.slice (some a) n m)→a.block≠c)→w2.heap[c]? = w.heap[c]?
def Kp (w w2:World):Prop:=∀ (x:Nat×Nat×Nat) (t:TypeId) (vs:List Value),zx Tryz.prog w x t vs→t≠5→t≠170→zx Tryz.prog w2 x t vs
theorem Kp.trans {x y z:World} (h:Kp x y) (k:Kp y z):Kp x z:=fun a t vs r h5 h7=>k a t vs (h a t vs r h5 h7) h5 h7
theorem Kp.qu {x y:World} (g:Grown x y):Kp x y:=fun _ _ _ r _ _=>zk g r
theorem Wt.g {w0 w:World}{b:Nat}{L:List Nat} (h:Wt w0 w b L):Grown w0 w:=by
 obtain ⟨v,_,hb⟩:=h.ex
 exact hb.g
theorem Wt.grown {w0 w w2:World}{b:Nat}{L:List Nat} (h:Wt w0 w b L) (g:Grown w w2):Wt w0 w2 b L:=by
 obtain ⟨v,hr,hb⟩:=h.ex
 exact ⟨⟨v,zk g hr,hb.grown g⟩,h.low⟩
theorem aO {w:World}{x y:Nat×Nat×Nat}{t u:TypeId}{vs us:List Value} (h:zx Tryz.prog w x t vs) (k:zx Tryz.prog w y u us) (hn:t≠u):x.1≠y.1:=fun e=>by
 obtain ⟨a1,f1,h1,_⟩:=h
 obtain ⟨a2,f2,h2,_⟩:=k
 rw [e,h2]at h1
 cases h1
 exact hn rfl
theorem Fr.kp {w0 w w2:World}{b:Nat}{L:List Nat} (h:Wt w0 w b L) (k:Fr b w w2):Kp w w2:=fun x t vs r h5 h7=>by
 obtain ⟨v,hr,hb⟩:=h.ex
 refine zV r (k _ (zx.lt r) (aO r hr h7) fun a n m e he=>?_)
 rw [(zc (k:=0) hr rfl).1]at e
 cases e
 rcases hb.row.ex with ⟨_,e⟩ | ⟨y,e,hy,_⟩
 ·cases e
 ·cases e
  exact aO r hy h5 he.symm
theorem Bs.xh {w0 w:World}{v u:Value}{L:List Nat}{b k:Nat}{vs:List Value} (h:Bs w0 w v L) (hr:zx Tryz.prog w (b,0,0) 170 vs) (hb:w0.heap.size≤b):Bs w0 (w.setCell ⟨b,k,none⟩ u) v L:=
 ⟨⟨h.row.len,h.row.ex.imp id fun ⟨x,e,r,l⟩=>⟨x,e,zV r (zo (aO r hr (by decide))),l⟩⟩,h.lt,qB h.g hb⟩
theorem X6:∀ (k u:Nat),u<128 ^ k→(Go.AuditPlain.hi u).length≤k
 | 0,u,h=>by rw [show u=0 by simpa using h,Go.AuditPlain.kG];exact Nat.le_refl _
 | k+1,u,h=>by
  by_cases h0:u=0
  ·rw [h0,Go.AuditPlain.kG];exact Nat.zero_le _
  ·rw [Go.AuditPlain.JU h0,List.length_append]
   have:=X6 k (u / 128) (by rw [Nat.pow_succ]at h;omega)
   show (Go.AuditPlain.hi (u / 128)).length+1≤k+1
   omega
theorem yr {n:Nat} (h:n<2097152):(put n).length≤3:=by
 unfold put
 rw [List.length_append]
 have:=X6 2 (n / 128) (by show n / 128<16384;omega)
 show (Go.AuditPlain.hi (n / 128)).length+1≤3
 omega
def vB (w0 w:World) (b:Nat) (L:List Nat) (e:Ending) (w2:World):Prop:=e = .returned (.tuple #[])∧Wt w0 w2 b L∧Fr b w w2
def WQ (w0 w:World) (b:Nat) (L:List Nat) (e:Ending) (w2:World):Prop:=e = .returned (.tuple #[])∧Wt w0 w2 b L∧Kp w w2
theorem Bu {b:Nat}{w w3:World}{v v':Value} (h:w.cell? ⟨b,0,none⟩=some v) (k:qF v w w3):Fr b w (w3.setCell ⟨b,0,none⟩ v'):=fun c hc hn hs=>by
 rw [zo hn]
 exact k.qA c hc fun p n m e=>hs p n m (by rw [h,e])
theorem Fr.grown {b:Nat}{w w1 w2:World}{v:Value} (h:w.cell? ⟨b,0,none⟩=some v) (g:Grown w w1) (k:Fr b w1 w2):Fr b w w2:=fun c hc hn hs=>by
 rw [k c (Nat.lt_of_lt_of_le hc g.size) hn fun a n m e=>hs a n m (by rw [h,← e,RD.ze h g]),g.old c hc]
theorem Wt.cell {w0 w:World}{b:Nat}{L:List Nat} (h:Wt w0 w b L):∃ v,w.cell? ⟨b,0,none⟩=some v:=by
 obtain ⟨v,hr,_⟩:=h.ex
 exact ⟨v,(zc (k:=0) hr rfl).1⟩
theorem pL {w0 w:World}{b:Nat}{L M:List Nat}{p:Option Addr}{n c:Nat} (h:Wt w0 w b L) (hM:ByL w p n M) (few:L.length+n≤100000):Calls Tryz.prog 87 #[.pointer (some ⟨b,0,none⟩),.slice p n c] w (vB w0 w b (L++M)):=by
 obtain ⟨v,hr,hb⟩:=h.ex
 have HL:=Lib.hid h.low
 have HR:=Lib.hid hr
 have HB:=Lib.hid hb
 have HM:=Lib.hid hM
 have HF:=Lib.hid few
 obtain ⟨c0,f0⟩:=zc (k:=0) hr rfl
 have C0:=Lib.hid c0
 clear h hr hb hM few
 go_enter Tryz.func87,Tryz.ntmps87
 go_wp2_with (at_builtin;refine yU _ _ rfl rfl HB.out HM.out HF.out rfl ?_;intro v' w3 k1 k2;obtain ⟨p3,c3',e3,_⟩:=k1.byL (by rw [List.length_append,HM.out.len];exact HF.out);subst e3;have K1:=Lib.hid k1;have K2:=Lib.hid k2;have hr3:=qO HR.out k2 HB.out.row (by decide);have HR3:=Lib.hid hr3;obtain ⟨c3,f3⟩:=zc (k:=0) hr3 rfl;clear k1 k2 hr3)
 exact ⟨rfl,_,results_none rfl _ _ _,rfl,⟨⟨_,zD (k:=0) HR3.out (by show 0<1;omega),(by have:=K1.out;rw [List.length_append]at this;exact this.xh HR3.out HL.out)⟩,HL.out⟩,Bu C0.out K2.out⟩
theorem uint40 {w0 w:World}{b:Nat}{L:List Nat}{n:Nat} (h:Wt w0 w b L) (hn:n<2097152) (few:L.length+3≤100000):Calls Tryz.prog 40 #[.pointer (some ⟨b,0,none⟩),.int .u64 n] w (vB w0 w b (L++put n)):=by
 have H:=Lib.hid h
 have HF:=Lib.hid few
 clear h few
 go_enter Tryz.func40,Tryz.ntmps40
 go_wp2_with (first
  | (go_at_call 88;(with_reducible refine (ee hn).mono ?_);rintro e w1 ⟨⟨p,c,rfl,hb⟩,h3⟩;obtain ⟨_,_,e,hby,_⟩:=hb.byL (by omega);cases e;have G1:=Lib.hid hb.g;have BY:=Lib.hid hby;clear hb hby)
  | (go_at_call 87;(with_reducible refine (pL (H.out.grown G1.out) BY.out (by have:=HF.out;omega)).mono ?_);rintro e w2 ⟨rfl,k1,k2⟩;have K1:=Lib.hid k1;have K2:=Lib.hid k2;clear k1 k2))
 exact ⟨rfl,_,results_none rfl _ _ _,rfl,K1.out,K2.out.grown H.out.cell.choose_spec G1.out⟩
def tG (b:Nat) (p:Option Addr) (w:World):Prop:=∀ q,p=some q→q.block≠b∧∀ a n m,w.cell? ⟨b,0,none⟩=some (.slice (some a) n m)→a.block≠q.block
theorem ByL.fr {w w2:World}{b:Nat}{p:Option Addr}{n:Nat}{M:List Nat} (h:ByL w p n M) (k:Fr b w w2) (hs:tG b p w):ByL w2 p n M:=by
 refine ⟨fun hn=>?_,h.len,h.few,h.lt⟩
 obtain ⟨b',o,rfl,hc⟩:=h.cs hn
 refine ⟨b',o,rfl,fun j u hj=>?_⟩
 have:=hc j u hj
 rw [World.cell?_of_block (k b' (World.block_lt_of_cell? w _ this) (hs _ rfl).1 (hs _ rfl).2)]
 exact this
theorem vi {w0 w:World}{b:Nat}{L M:List Nat}{p:Option Addr}{n c:Nat} (h:Wt w0 w b L) (hM:ByL w p n M) (hs:tG b p w) (hn:n<90000) (few:L.length+n≤90000):Calls Tryz.prog 89 #[.pointer (some ⟨b,0,none⟩),.slice p n c] w (WQ w0 w b (L++zw M)):=by
 have H:=Lib.hid h
 have HF:=Lib.hid few
 have HM:=Lib.hid hM
 have HS:=Lib.hid hs
 have hw:IntKind.u64.wrap (n:Int)=(n:Int):=IntWalk.u64_in _ (by omega)
 have h3:=Lib.hid (yr (n:=n) (by omega))
 clear h few hM hs
 go_enter Tryz.func89,Tryz.ntmps89
 go_wp2_with (first
  | (go_at_call 40;(with_reducible refine (uint40 (n:=n) H.out (by omega) (by have:=HF.out;omega)).mono ?_);rintro e w1 ⟨rfl,k1,k2⟩;have K1:=Lib.hid k1;have K2:=Lib.hid k2;clear k1 k2)
  | (go_at_call 87;(with_reducible refine (pL K1.out (HM.out.fr K2.out HS.out) (by rw [List.length_append];have:=HF.out;have:=h3.out;omega)).mono ?_);rintro e w2 ⟨rfl,k1,k2⟩;have L1:=Lib.hid k1;have L2:=Lib.hid k2;clear k1 k2))
 refine ⟨rfl,_,results_none rfl _ _ _,rfl,?_,(Fr.kp H.out K2.out).trans (Fr.kp K1.out L2.out)⟩
 unfold zw
 rw [HM.out.len,← List.append_assoc]
 exact L1.out
theorem Wt.fresh {w0 w w1:World}{b:Nat}{L:List Nat} (h:Wt w0 w b L) (g:Grown w w1):tG b (some ⟨w.heap.size,0,none⟩) w1:=fun q e=>by
 cases e
 obtain ⟨v,hr,hb⟩:=h.ex
 have hlt:b<w.heap.size:=zx.lt hr
 refine ⟨by show w.heap.size≠b;omega,fun a n m e he=>?_⟩
 rw [RD.ze (zc (k:=0) hr rfl).1 g]at e
 cases e
 rcases hb.row.ex with ⟨_,e⟩ | ⟨y,e,hy,_⟩
 ·cases e
 ·cases e
  have:=zx.lt hy
  have he:y.1=w.heap.size:=he
  omega
theorem iS {w0 w:World}{b:Nat}{L:List Nat}{s:ByteArray} (h:Wt w0 w b L) (hs:s.size<80000) (few:L.length+s.size≤90000):Calls Tryz.prog 41 #[.pointer (some ⟨b,0,none⟩),.string s] w (WQ w0 w b (L++zw (sb s))):=by
 obtain ⟨cap,w1,hcv,g1,i1⟩:=sP w s (by omega)
 have H:=Lib.hid (h.grown g1)
 have HA:=Lib.hid (h.fresh g1)
 have HF:=Lib.hid few
 have G1:=Lib.hid g1
 have BY:=Lib.hid i1
 clear h few g1 i1
 go_enter Tryz.func41,Tryz.ntmps41
 go_wp2_with (go_at_call 89;(with_reducible refine (vi H.out BY.out HA.out (by omega) HF.out).mono ?_);rintro e w2 ⟨rfl,k1,k2⟩;have K1:=Lib.hid k1;have K2:=Lib.hid k2;clear k1 k2)
 exact ⟨rfl,_,results_none rfl _ _ _,rfl,K1.out,(Kp.qu G1.out).trans K2.out⟩
theorem Cw {w0 w:World}{b:Nat}{L:List Nat}{x c:Nat}{v:Int} (hv:(x:Int)=v) (hx:x<256) (h:Wt w0 w b L) (few:L.length+1≤100000):Calls Tryz.prog 87 #[.pointer (some ⟨b,0,none⟩),.slice (some ⟨w.heap.size,0,none⟩) 1 c] (w.alloc (.cells #[.int .u8 v] 5)) (vB w0 (w.alloc (.cells #[.int .u8 v] 5)) b (L++[x])):=by
 subst hv
 exact pL (h.grown (za w _)) (Vw hx rfl) few
theorem c1:((1:Nat):Int)=1:=rfl
theorem c0:((0:Nat):Int)=0:=rfl
theorem By {w0 w:World}{b:Nat}{L:List Nat}{f:Bool} (h:Wt w0 w b L) (few:L.length+1≤100000):Calls Tryz.prog 42 #[.pointer (some ⟨b,0,none⟩),.bool f] w (WQ w0 w b (L++qg f)):=by
 have H:=Lib.hid h
 have HF:=Lib.hid few
 clear h few
 cases f with
 | true=>
  go_enter Tryz.func42,Tryz.ntmps42
  go_wp2_with (go_at_call 87;(with_reducible refine (Cw c1 (by decide) H.out HF.out).mono ?_);rintro e w2 ⟨rfl,k1,k2⟩;have K1:=Lib.hid k1;have K2:=Lib.hid k2;clear k1 k2)
  exact ⟨rfl,_,results_none rfl _ _ _,rfl,K1.out,(Kp.qu (za w _)).trans (Fr.kp (H.out.grown (za w _)) K2.out)⟩
 | false=>
  go_enter Tryz.func42,Tryz.ntmps42
  go_wp2_with (go_at_call 87;(with_reducible refine (Cw c0 (by decide) H.out HF.out).mono ?_);rintro e w2 ⟨rfl,k1,k2⟩;have K1:=Lib.hid k1;have K2:=Lib.hid k2;clear k1 k2)
  exact ⟨rfl,_,results_none rfl _ _ _,rfl,K1.out,(Kp.qu (za w _)).trans (Fr.kp (H.out.grown (za w _)) K2.out)⟩
def DX (w:World) (L:List Nat) (e:Ending) (w2:World):Prop:=∃ (p:Option Addr) (c:Nat),e = .returned (.slice p L.length c)∧RD.In w2 p L∧Grown w w2
theorem CD {w0 w:World}{b:Nat}{L:List Nat} (h:Wt w0 w b L) (few:L.length≤100000):Calls Tryz.prog 43 #[.pointer (some ⟨b,0,none⟩)] w (DX w L):=by
 obtain ⟨v,hr,hb⟩:=h.ex
 obtain ⟨p,c,rfl,hby,_⟩:=hb.byL few
 obtain ⟨c0,f0⟩:=zc (k:=0) hr rfl
 have HI:RowKit.Hid (RD.In w p L):=Lib.hid ⟨hby.lt,fun hn=>by
  obtain ⟨b',o,e,hc⟩:=hby.cs (fun e=>hn (List.map_eq_nil_iff.1 e))
  exact ⟨b',o,e,fun i x hx=>hc i _ (by rw [List.getElem?_map,hx];rfl)⟩⟩
 clear h hr hb hby
 go_enter Tryz.func43,Tryz.ntmps43
 go_wp2_with (go_at_call 78;(with_reducible refine (RD.KM HI.out few).mono ?_);rintro e w1 ⟨p',c',rfl,k1,k2,k3,k4⟩;have K:=Lib.hid (And.intro k3 k1);clear k1 k2 k3 k4)
 go_ret
 exact ⟨p',c',rfl,K.out⟩
def Gt (w:World) (e:Ending) (w2:World):Prop:=∃ b,e = .returned (.pointer (some ⟨b,0,none⟩))∧Wt w w2 b []
theorem CQ {w:World}:Calls Tryz.prog 39 #[] w (Gt w):=by
 go_enter Tryz.func39,Tryz.ntmps39
 go_wp2
 go_ret
 exact ⟨w.heap.size,rfl,⟨⟨_,zn w,⟨⟨rfl,.inl ⟨rfl,rfl⟩⟩,fun _ h=>(by cases h),za w _⟩⟩,Nat.le_refl _⟩⟩
theorem Wt.before {w0 w1 w:World}{b:Nat}{L:List Nat} (h:Wt w1 w b L) (g:Grown w0 w1):Wt w0 w b L:=by
 obtain ⟨v,hr,hb⟩:=h.ex
 exact ⟨⟨v,hr,hb.before g⟩,Nat.le_trans g.size h.low⟩
end MK
end
section
open Go Go.Proofs TR
open Go.AuditPlain (put zw qg)
namespace MK
open Go.AEv.GT (zO qq)
theorem aM {l:List Nat} (h:∀ y∈l,y<256):sb (str l)=l:=by
 unfold sb str
 show ((l.map UInt8.ofNat).toArray.toList.map UInt8.toNat)=l
 rw [List.toList_toArray,List.map_map]
 conv=>rhs;rw [← List.map_id l]
 refine List.map_congr_left fun n hn=>?_
 show (UInt8.ofNat n).toNat=n
 rw [UInt8.toNat_ofNat',Nat.mod_eq_of_lt (h n hn)]
theorem xK {c:Pc} (h:Nrm c):∀ j,nth c j≤1000000
 | 0=>h.n0.1
 | 1=>h.n1.1
 | 2=>h.n2.1
 | 3=>h.n3.1
 | 4=>h.n4.1
 | _+5=>h.n5.1
theorem yF {c:Pc} (h:Nrm c):∀ j,(qj c j).length≤3*(j+1)
 | 0=>yr (by have:=h.k;omega)
 | j+1=>by
  have:=yF h j
  have h2:(seg (useB c.k j) (put (nth c j))).length≤3:=by
   unfold seg
   split
   ·exact yr (by have:=xK h j;omega)
   ·exact Nat.zero_le _
  show (qj c j++seg (useB c.k j) (put (nth c j))).length≤3*(j+1+1)
  rw [List.length_append]
  omega
theorem Zy {l:List Nat} (h:l.length<90000):(zw l).length≤l.length+3:=by
 unfold zw
 rw [List.length_append]
 have:=yr (n:=l.length) (by omega)
 omega
theorem QA {u:Bool}{l:List Nat}{m:Nat} (h:l.length≤m):(seg u l).length≤m:=by
 unfold seg
 split
 ·exact h
 ·exact Nat.zero_le _
structure BS (w wx:World) (b b1 b3:Nat) (L:List Nat) (c:Pc):Prop where
 wt:Wt w wx b L
 x:zx Tryz.prog wx (b1,0,0) 34 c.cells
 f:zx Tryz.prog wx (b3,0,0) 78 (useL c.k)
theorem BS.grown {w wx wy:World}{b b1 b3:Nat}{L:List Nat}{c:Pc} (h:BS w wx b b1 b3 L c) (g:Grown wx wy):BS w wy b b1 b3 L c:=⟨h.wt.grown g,zk g h.x,zk g h.f⟩
theorem BS.kp {w wx wy:World}{b b1 b3:Nat}{L L2:List Nat}{c:Pc} (h:BS w wx b b1 b3 L c) (k:Kp wx wy) (h2:Wt w wy b L2):BS w wy b b1 b3 L2 c:=⟨h2,k _ _ _ h.x (by decide) (by decide),k _ _ _ h.f (by decide) (by decide)⟩
def BJ (w:World) (b b1 b3:Nat) (c:Pc) (n:Nat) (i:Value) (wx:World):Prop:=∃ j:Nat,j+n=6∧i = .int .i64 j∧BS w wx b b1 b3 (qj c j) c
theorem xv {w0 w:World}{b:Nat}{L L2:List Nat}{e:Ending}{w2:World} (h:Wt w0 w b L) (k:vB w0 w b L2 e w2):WQ w0 w b L2 e w2:=⟨k.1,k.2.1,Fr.kp h k.2.2⟩
theorem Qu {w0 w:World}{b:Nat}{L:List Nat}{n:Nat} (h:Wt w0 w b L) (hn:n<2097152) (few:L.length+3≤100000):Calls Tryz.prog 40 #[.pointer (some ⟨b,0,none⟩),.int .u64 n] w (WQ w0 w b (L++put n)):=(uint40 h hn few).mono fun _ _ k=>xv h k
theorem vj {w:World}{c:Pc} (hc:Nrm c) (hk:1≤c.k) (hE:∀ y∈enc c,y<256):Calls Tryz.prog 11 #[.agg c.cells.toArray] w (DX w (enc c)):=by
 have HC:=Lib.hid hc
 have HE:=Lib.hid hE
 have h18:=hc.k
 have hkw:IntKind.u64.wrap (c.k:Int)=(c.k:Int):=IntWalk.u64_in _ (by omega)
 have X0:=Lib.hid (zn w (z:=c.cells.toArray) (t:=34))
 obtain ⟨y0,y1,y2,y3,y4,y5,y6,y7,y8,y9,y10,y11⟩:=qc X0.out
 clear hc hE
 go_enter Tryz.func11,Tryz.ntmps11
 go_upto_region 5 with (first
  | (go_at_call 15;(with_reducible refine (qJ HC.out hk).mono ?_);rintro e w2 ⟨rfl,g2⟩;have G2:=Lib.hid g2;clear y1 y2 y3 y4 y5 y6 y7 y8 y9 y10 y11;have y0:=RD.ze y0 g2;clear g2)
  | (go_at_call 31;(with_reducible refine (uses31_call (k:=c.k) (by omega)).mono ?_);rintro e w4 ⟨rfl,g4⟩;have G4:=Lib.hid g4;clear g4)
  | (go_at_call 39;(with_reducible refine CQ.mono ?_);rintro e w6 ⟨b,rfl,hw6⟩;have H6:=Lib.hid hw6;clear hw6))
 have GA:=Lib.hid ((za w (.cells c.cells.toArray 34)).trans' (G2.out.trans' (G4.out.trans' (za w4 (.cells #[.bool (useB c.k 0),.bool (useB c.k 1),.bool (useB c.k 2),.bool (useB c.k 3),.bool (useB c.k 4),.bool (useB c.k 5),.bool (useB c.k 6),.bool (useB c.k 7),.bool (useB c.k 8)] 78)))))
 have S0:RowKit.Hid (BS w w6 b w.heap.size w4.heap.size [] c):=Lib.hid ⟨H6.out.before GA.out,zk (G2.out.trans' (G4.out.trans' ((za w4 (.cells #[.bool (useB c.k 0),.bool (useB c.k 1),.bool (useB c.k 2),.bool (useB c.k 3),.bool (useB c.k 4),.bool (useB c.k 5),.bool (useB c.k 6),.bool (useB c.k 7),.bool (useB c.k 8)] 78)).trans' H6.out.g))) X0.out,zk H6.out.g (zn w4)⟩
 obtain ⟨b1,hb1⟩:∃ b1,b1=w.heap.size:=⟨_,rfl⟩
 obtain ⟨b3,hb3⟩:∃ b3,b3=w4.heap.size:=⟨_,rfl⟩
 rw [← hb1,← hb3]at S0
 rw [← hb1,← hb3]
 clear hb1 hb3 GA G2 G4 H6 X0 y0
 have y0:=(zc (k:=0) S0.out.x rfl).1
 go_upto_region 6 with (first
  | (go_at_call 40;(with_reducible refine (Qu (n:=c.k) S0.out.wt (by omega) (by decide)).mono ?_);rintro e w7 ⟨rfl,k1,k2⟩;have S1:=Lib.hid (S0.out.kp k2 k1);clear k1 k2 y0))
 go_cut [19,20] from 5 to 66 (fun s19 s20 wx=>s19=WZ b1∧s20 = .int .i64 0∧BS w wx b b1 b3 (put c.k) c)
 case first=>
  go_wp2_with (first
   | (go_at_call 32;(with_reducible refine (ZM S1.out.x).mono ?_);rintro e w8 ⟨rfl,g8⟩;have S2:=Lib.hid (S1.out.grown g8);clear g8))
  go_meet
  case rel=>exact ⟨rfl,rfl,S2.out⟩
 case rest=>
  obtain ⟨rfl,rfl,hst⟩:=hcut
  have S2:=Lib.hid hst
  clear hst S0 S1
  go_wp2_with fail
  go_loopg [20] 6 (fun n i wx=>BJ w b b1 b3 c n i wx)
  case atStart=>exact ⟨0,rfl,rfl,S2.out⟩
  case round=>
   obtain ⟨j,hj,hi,hst⟩:=hrel
   have SJ:=Lib.hid hst
   clear hst S2
   cases gk with
   | succ n=>
    have hj6:j=0∨j=1∨j=2∨j=3∨j=4∨j=5:=by omega
    rcases hj6 with rfl | rfl | rfl | rfl | rfl | rfl
    ·have hi':_=Value.int .i64 0:=hi
     subst hi'
     have fj:=(zc (k:=0) SJ.out.f rfl).1
     have xj:=(zc (k:=1) SJ.out.x rfl).1
     have hn:=HC.out.n0.1
     have hnw:IntKind.u64.wrap (c.n0:Int)=(c.n0:Int):=IntWalk.u64_in _ (by omega)
     have hp:=fun w1=>(jh b1 w1).1
     go_wp2_with (first
      | (go_at_call 40;(with_reducible refine (Qu (n:=c.n0) SJ.out.wt (by omega) (by have:=yF HC.out 0;omega)).mono ?_);rintro e w7 ⟨rfl,k1,k2⟩;have S7:=Lib.hid (SJ.out.kp k2 k1);clear k1 k2))
     ·have hu:useB c.k 0=true:=‹useB c.k 0=true›
      have ho:qj c (0+1)=qj c 0++put c.n0:=by show qj c 0++seg (useB c.k 0) (put c.n0)=_;rw [qX hu]
      go_roundg n
      case measure=>omega
      case rel=>exact ⟨1,by omega,rfl,(by rw [ho];exact S7.out)⟩
     ·have hu:useB c.k 0=false:=‹useB c.k 0=false›
      have ho:qj c (0+1)=qj c 0:=by show qj c 0++seg (useB c.k 0) _=_;rw [jl hu];exact List.append_nil _
      go_roundg n
      case measure=>omega
      case rel=>exact ⟨1,by omega,rfl,(by rw [ho];exact SJ.out)⟩
    ·have hi':_=Value.int .i64 1:=hi
     subst hi'
     have fj:=(zc (k:=1) SJ.out.f rfl).1
     have xj:=(zc (k:=2) SJ.out.x rfl).1
     have hn:=HC.out.n1.1
     have hnw:IntKind.u64.wrap (c.n1:Int)=(c.n1:Int):=IntWalk.u64_in _ (by omega)
     have hp:=fun w1=>(jh b1 w1).2.1
     go_wp2_with (first
      | (go_at_call 40;(with_reducible refine (Qu (n:=c.n1) SJ.out.wt (by omega) (by have:=yF HC.out 1;omega)).mono ?_);rintro e w7 ⟨rfl,k1,k2⟩;have S7:=Lib.hid (SJ.out.kp k2 k1);clear k1 k2))
     ·have hu:useB c.k 1=true:=‹useB c.k 1=true›
      have ho:qj c (1+1)=qj c 1++put c.n1:=by show qj c 1++seg (useB c.k 1) (put c.n1)=_;rw [qX hu]
      go_roundg n
      case measure=>omega
      case rel=>exact ⟨2,by omega,rfl,(by rw [ho];exact S7.out)⟩
     ·have hu:useB c.k 1=false:=‹useB c.k 1=false›
      have ho:qj c (1+1)=qj c 1:=by show qj c 1++seg (useB c.k 1) _=_;rw [jl hu];exact List.append_nil _
      go_roundg n
      case measure=>omega
      case rel=>exact ⟨2,by omega,rfl,(by rw [ho];exact SJ.out)⟩
    ·have hi':_=Value.int .i64 2:=hi
     subst hi'
     have fj:=(zc (k:=2) SJ.out.f rfl).1
     have xj:=(zc (k:=3) SJ.out.x rfl).1
     have hn:=HC.out.n2.1
     have hnw:IntKind.u64.wrap (c.n2:Int)=(c.n2:Int):=IntWalk.u64_in _ (by omega)
     have hp:=fun w1=>(jh b1 w1).2.2.1
     go_wp2_with (first
      | (go_at_call 40;(with_reducible refine (Qu (n:=c.n2) SJ.out.wt (by omega) (by have:=yF HC.out 2;omega)).mono ?_);rintro e w7 ⟨rfl,k1,k2⟩;have S7:=Lib.hid (SJ.out.kp k2 k1);clear k1 k2))
     ·have hu:useB c.k 2=true:=‹useB c.k 2=true›
      have ho:qj c (2+1)=qj c 2++put c.n2:=by show qj c 2++seg (useB c.k 2) (put c.n2)=_;rw [qX hu]
      go_roundg n
      case measure=>omega
      case rel=>exact ⟨3,by omega,rfl,(by rw [ho];exact S7.out)⟩
     ·have hu:useB c.k 2=false:=‹useB c.k 2=false›
      have ho:qj c (2+1)=qj c 2:=by show qj c 2++seg (useB c.k 2) _=_;rw [jl hu];exact List.append_nil _
      go_roundg n
      case measure=>omega
      case rel=>exact ⟨3,by omega,rfl,(by rw [ho];exact SJ.out)⟩
    ·have hi':_=Value.int .i64 3:=hi
     subst hi'
     have fj:=(zc (k:=3) SJ.out.f rfl).1
     have xj:=(zc (k:=4) SJ.out.x rfl).1
     have hn:=HC.out.n3.1
     have hnw:IntKind.u64.wrap (c.n3:Int)=(c.n3:Int):=IntWalk.u64_in _ (by omega)
     have hp:=fun w1=>(jh b1 w1).2.2.2.1
     go_wp2_with (first
      | (go_at_call 40;(with_reducible refine (Qu (n:=c.n3) SJ.out.wt (by omega) (by have:=yF HC.out 3;omega)).mono ?_);rintro e w7 ⟨rfl,k1,k2⟩;have S7:=Lib.hid (SJ.out.kp k2 k1);clear k1 k2))
     ·have hu:useB c.k 3=true:=‹useB c.k 3=true›
      have ho:qj c (3+1)=qj c 3++put c.n3:=by show qj c 3++seg (useB c.k 3) (put c.n3)=_;rw [qX hu]
      go_roundg n
      case measure=>omega
      case rel=>exact ⟨4,by omega,rfl,(by rw [ho];exact S7.out)⟩
     ·have hu:useB c.k 3=false:=‹useB c.k 3=false›
      have ho:qj c (3+1)=qj c 3:=by show qj c 3++seg (useB c.k 3) _=_;rw [jl hu];exact List.append_nil _
      go_roundg n
      case measure=>omega
      case rel=>exact ⟨4,by omega,rfl,(by rw [ho];exact SJ.out)⟩
    ·have hi':_=Value.int .i64 4:=hi
     subst hi'
     have fj:=(zc (k:=4) SJ.out.f rfl).1
     have xj:=(zc (k:=5) SJ.out.x rfl).1
     have hn:=HC.out.n4.1
     have hnw:IntKind.u64.wrap (c.n4:Int)=(c.n4:Int):=IntWalk.u64_in _ (by omega)
     have hp:=fun w1=>(jh b1 w1).2.2.2.2.1
     go_wp2_with (first
      | (go_at_call 40;(with_reducible refine (Qu (n:=c.n4) SJ.out.wt (by omega) (by have:=yF HC.out 4;omega)).mono ?_);rintro e w7 ⟨rfl,k1,k2⟩;have S7:=Lib.hid (SJ.out.kp k2 k1);clear k1 k2))
     ·have hu:useB c.k 4=true:=‹useB c.k 4=true›
      have ho:qj c (4+1)=qj c 4++put c.n4:=by show qj c 4++seg (useB c.k 4) (put c.n4)=_;rw [qX hu]
      go_roundg n
      case measure=>omega
      case rel=>exact ⟨5,by omega,rfl,(by rw [ho];exact S7.out)⟩
     ·have hu:useB c.k 4=false:=‹useB c.k 4=false›
      have ho:qj c (4+1)=qj c 4:=by show qj c 4++seg (useB c.k 4) _=_;rw [jl hu];exact List.append_nil _
      go_roundg n
      case measure=>omega
      case rel=>exact ⟨5,by omega,rfl,(by rw [ho];exact SJ.out)⟩
    ·have hi':_=Value.int .i64 5:=hi
     subst hi'
     have fj:=(zc (k:=5) SJ.out.f rfl).1
     have xj:=(zc (k:=6) SJ.out.x rfl).1
     have hn:=HC.out.n5.1
     have hnw:IntKind.u64.wrap (c.n5:Int)=(c.n5:Int):=IntWalk.u64_in _ (by omega)
     have hp:=fun w1=>(jh b1 w1).2.2.2.2.2
     go_wp2_with (first
      | (go_at_call 40;(with_reducible refine (Qu (n:=c.n5) SJ.out.wt (by omega) (by have:=yF HC.out 5;omega)).mono ?_);rintro e w7 ⟨rfl,k1,k2⟩;have S7:=Lib.hid (SJ.out.kp k2 k1);clear k1 k2))
     ·have hu:useB c.k 5=true:=‹useB c.k 5=true›
      have ho:qj c (5+1)=qj c 5++put c.n5:=by show qj c 5++seg (useB c.k 5) (put c.n5)=_;rw [qX hu]
      go_roundg n
      case measure=>omega
      case rel=>exact ⟨6,by omega,rfl,(by rw [ho];exact S7.out)⟩
     ·have hu:useB c.k 5=false:=‹useB c.k 5=false›
      have ho:qj c (5+1)=qj c 5:=by show qj c 5++seg (useB c.k 5) _=_;rw [jl hu];exact List.append_nil _
      go_roundg n
      case measure=>omega
      case rel=>exact ⟨6,by omega,rfl,(by rw [ho];exact SJ.out)⟩
   | zero=>
    obtain rfl:j=6:=by omega
    have hi':_=Value.int .i64 6:=hi
    subst hi'
    have l6:=yF HC.out 6
    have f6:=(zc (k:=6) SJ.out.f rfl).1
    go_upto_if 36 with fail
    go_cut [] from 5 to 66 (fun wx=>BS w wx b b1 b3 (qj c 6++seg (useB c.k 6) (zw c.nm)) c)
    case first=>
     have x7:=(zc (k:=7) SJ.out.x rfl).1
     have hl:=HC.out.nm.1
     go_wp2_with (first
      | (go_at_call 41;(with_reducible refine (iS (s:=str c.nm) SJ.out.wt (by rw [qL];omega) (by rw [qL];omega)).mono ?_);rintro e w7 ⟨rfl,k1,k2⟩;have S7:=Lib.hid (SJ.out.kp k2 k1);clear k1 k2))
     ·have hu:useB c.k 6=true:=‹useB c.k 6=true›
      have hlt:∀ y∈c.nm,y<256:=fun y hy=>HE.out y (by unfold enc;rw [qX hu];simp [zw,hy])
      go_meet
      case rel=>rw [qX hu,← aM hlt];exact S7.out
     ·have hu:useB c.k 6=false:=‹useB c.k 6=false›
      go_meet
      case rel=>rw [jl hu,List.append_nil];exact SJ.out
    case rest=>
     have SA:=Lib.hid hcut
     have la:RowKit.Hid ((qj c 6++seg (useB c.k 6) (zw c.nm)).length≤40):=Lib.hid (by
      rw [List.length_append]
      have h1:=HC.out.nm.1
      have:=QA (u:=useB c.k 6) (l:=zw c.nm) (m:=15) (by have:=Zy (l:=c.nm) (by omega);omega)
      omega)
     clear hcut SJ f6
     have f7:=(zc (k:=7) SA.out.f rfl).1
     go_upto_if 42 with fail
     go_cut [] from 5 to 66 (fun wx=>BS w wx b b1 b3 (qj c 6++seg (useB c.k 6) (zw c.nm)++seg (useB c.k 7) (zw c.tx)) c)
     case first=>
      have x8:=(zc (k:=8) SA.out.x rfl).1
      have hl:=HC.out.tx.1
      go_wp2_with (first
       | (go_at_call 41;(with_reducible refine (iS (s:=str c.tx) SA.out.wt (by rw [qL];omega) (by rw [qL];have:=la.out;omega)).mono ?_);rintro e w7 ⟨rfl,k1,k2⟩;have S7:=Lib.hid (SA.out.kp k2 k1);clear k1 k2))
      ·have hu:useB c.k 7=true:=‹useB c.k 7=true›
       have hlt:∀ y∈c.tx,y<256:=fun y hy=>HE.out y (by unfold enc;rw [qX hu];simp [zw,hy])
       go_meet
       case rel=>rw [qX hu,← aM hlt];exact S7.out
      ·have hu:useB c.k 7=false:=‹useB c.k 7=false›
       go_meet
       case rel=>rw [jl hu,List.append_nil];exact SA.out
     case rest=>
      have SB:=Lib.hid hcut
      have lb:RowKit.Hid ((qj c 6++seg (useB c.k 6) (zw c.nm)++seg (useB c.k 7) (zw c.tx)).length≤8100):=Lib.hid (by
       rw [List.length_append]
       have h1:=HC.out.tx.1
       have:=QA (u:=useB c.k 7) (l:=zw c.tx) (m:=8003) (by have:=Zy (l:=c.tx) (by omega);omega)
       have:=la.out
       omega)
      clear hcut SA f7
      have f8:=(zc (k:=8) SB.out.f rfl).1
      go_upto_if 48 with fail
      go_cut [] from 5 to 66 (fun wx=>BS w wx b b1 b3 (enc c) c)
      case first=>
       have x9:=(zc (k:=9) SB.out.x rfl).1
       have hla:=HC.out.ac.1
       have hlp:=HC.out.pa.1
       have ha:=fun h:sb (str c.ac)=c.ac=>Zy (l:=sb (str c.ac)) (by rw [h];omega)
       by_cases hu:useB c.k 8=true
       ·have hnf:∀ {P:Prop},useB c.k 8=false→P:=fun h=>by rw [hu]at h;cases h
        have hlt1:sb (str c.ac)=c.ac:=aM fun y hy=>HE.out y (by unfold enc;rw [qX hu];simp [zw,hy])
        have hlt2:sb (str c.pa)=c.pa:=aM fun y hy=>HE.out y (by unfold enc;rw [qX hu];simp [zw,hy])
        have l1:=Zy (l:=c.ac) (by omega)
        have l2:=Zy (l:=c.pa) (by omega)
        go_wp2_with (first
         | (go_at_call 41;(with_reducible refine (iS (s:=str c.ac) SB.out.wt (by rw [qL];omega) (by rw [qL];have:=lb.out;omega)).mono ?_);rintro e w7 ⟨rfl,k1,k2⟩;rw [hlt1]at k1;have S7:=Lib.hid (SB.out.kp k2 k1);clear k1 k2 x9;have x10:=(zc (k:=10) S7.out.x rfl).1)
         | (go_at_call 41;(with_reducible refine (iS (s:=str c.pa) S7.out.wt (by rw [qL];omega) (by rw [qL,List.length_append];have:=lb.out;omega)).mono ?_);rintro e w8 ⟨rfl,k1,k2⟩;rw [hlt2]at k1;have S8:=Lib.hid (S7.out.kp k2 k1);clear k1 k2 x10;have x11:=(zc (k:=11) S8.out.x rfl).1)
         | (go_at_call 42;(with_reducible refine (By (f:=c.dp) S8.out.wt (by rw [List.length_append,List.length_append];have:=lb.out;omega)).mono ?_);rintro e w9 ⟨rfl,k1,k2⟩;have S9:=Lib.hid (S8.out.kp k2 k1);clear k1 k2))
        ·go_meet
         case rel=>unfold enc;rw [qX hu];have:=S9.out;simp only [List.append_assoc]at this ⊢;exact this
        ·exact hnf ‹useB c.k 8=false›
       ·have hu:useB c.k 8=false:=by simpa using hu
        go_wp2_with fail
        go_meet
        case rel=>unfold enc;rw [jl hu,List.append_nil];exact SB.out
      case rest=>
       have SC:=Lib.hid hcut
       have lc:RowKit.Hid ((enc c).length≤90000):=Lib.hid (by
        unfold enc
        rw [List.length_append]
        have h1:=HC.out.ac.1
        have h2:=HC.out.pa.1
        have:=QA (u:=useB c.k 8) (l:=zw c.ac++zw c.pa++qg c.dp) (m:=200) (by
         have l1:=Zy (l:=c.ac) (by omega)
         have l2:=Zy (l:=c.pa) (by omega)
         have l3:(qg c.dp).length=1:=by unfold qg;split<;>rfl
         rw [List.length_append,List.length_append]
         omega)
        have:=lb.out
        omega)
       clear hcut SB f8
       go_wp2_with (first
        | (go_at_call 43;(with_reducible refine (CD SC.out.wt (by have:=lc.out;omega)).mono ?_);rintro e w9 ⟨p,cp,rfl,hin,g9⟩;have R:=Lib.hid (And.intro hin (SC.out.wt.g.trans' g9));clear hin g9))
       go_ret
       exact ⟨p,cp,rfl,R.out⟩
end MK
end
section
open Go Go.Proofs TR
namespace MK
theorem FM {w:World}{p q:Option Addr}{M:List Nat}{c d:Nat} (h1:RD.In w p M) (h2:RD.In w q M) (hn:M≠[]) (few:M.length≤100000):Calls Tryz.prog 13 #[.slice p M.length c,.slice q M.length d] w (GrV (.bool true) w):=by
 obtain ⟨b1,o1,rfl,hc1⟩:=h1.2 hn
 obtain ⟨b2,o2,rfl,hc2⟩:=h2.2 hn
 obtain ⟨n,hnn⟩:∃ n,n=M.length:=⟨_,rfl⟩
 have HC:=Lib.hid (And.intro hc1 (And.intro hc2 hnn))
 rw [← hnn]at few ⊢
 clear h1 h2 hn hc1 hc2 hnn
 go_enter Tryz.func13,Tryz.ntmps13
 go_wp2
 go_loopg [13] n (fun g i wx=>∃ j:Nat,j+g=n∧i = .int .i64 j∧Grown w wx)
 case atStart=>exact ⟨0,by omega,rfl,RD.zL _⟩
 case round=>
  obtain ⟨j,hj,rfl,hg⟩:=hrel
  cases gk with
  | zero=>
   have hjn:¬ ((j:Int)<(n:Int)):=by omega
   have G:=Lib.hid hg
   clear hg
   go_wp2
   go_ret
   exact ⟨rfl,G.out⟩
  | succ g=>
   have hjn:(j:Int)<(n:Int):=by omega
   obtain ⟨x,hx⟩:∃ x,M[j]? = some x:=⟨_,List.getElem?_eq_getElem (by have:=HC.out.2.2;omega)⟩
   have g1:=RD.ze (HC.out.1 j x hx) hg
   have g2:=RD.ze (HC.out.2.1 j x hx) hg
   have G:=Lib.hid hg
   clear hg hx
   go_wp2_with fail
   go_region_law fail
   all_goals (go_wp2;go_roundg g;(case measure=>omega))
   all_goals exact ⟨j+1,by omega,rfl,(by first | exact G.out | exact G.out.trans' (zp _))⟩
end MK
end
section
open Go Go.Proofs TR
open Go.AuditPlain (hi put zw qg JU kG)
namespace MK
open Go.AEv.GT (zO qq)
def BsE (M:List Nat) (w:World) (e:Ending) (w2:World):Prop:=∃ (p:Option Addr) (c:Nat),e = .returned (.slice p M.length c)∧Bs w w2 (.slice p M.length c) M
theorem bsE {w w2:World}{v:Value}{M:List Nat} (h:Bs w w2 v M) (few:M.length≤100000):BsE M w (.returned v) w2:=by
 obtain ⟨p,c,rfl,_⟩:=h.byL few
 exact ⟨p,c,rfl,h⟩
theorem YN {n:Nat} (h:n<268435456):(put n).length≤5:=by
 unfold put
 rw [List.length_append]
 have:=X6 4 (n / 128) (by show n / 128<268435456;omega)
 show _+1≤_
 omega
theorem V0 (n:Nat):1≤(put n).length:=by
 unfold put
 rw [List.length_append]
 show 1≤_+1
 omega
theorem rh {w:World}{n:Nat} (hn:n<268435456):Calls Tryz.prog 128 #[.int .i64 n] w (BsE (put n) w):=by
 have b0:=ia (w0:=w) (w:=w) (x:=n % 128) (b:=w.heap.size) (by omega) (RD.zL _) rfl (RD.zL _)
 have B0:=Lib.hid b0
 clear b0
 go_enter Tryz.func128,Tryz.ntmps128
 go_wp2
 go_loopg [0,3] 4 (fun g i v wx=>∃ (m:Nat) (L:List Nat),i = .int .i64 m∧m<128 ^ g∧Bs w wx v L∧1≤L.length∧L.length+g≤5∧put n=hi m++L)
 case atStart=>exact ⟨n / 128,[n % 128],(by show _=Value.int .i64 ((n / 128:Nat):Int);rfl),by show n / 128<268435456;omega,B0.out,Nat.le_refl _,Nat.le_refl _,rfl⟩
 case round=>
  obtain ⟨m,L,rfl,hm,hb,h1,h5,hput⟩:=hrel
  have HB:=Lib.hid hb
  have HP:=Lib.hid hput
  have few:L.length≤100000:=by omega
  obtain ⟨p,c,e,hby,_⟩:=hb.byL few
  subst e
  have BY:=Lib.hid hby
  clear hb hby hput
  by_cases hz:m=0
  ·subst hz
   go_wp2
   go_ret
   have hp:=HP.out
   rw [kG,List.nil_append]at hp
   rw [hp]
   exact ⟨p,c,rfl,HB.out⟩
  ·cases gk with
   | zero=>exfalso;simp at hm;omega
   | succ g=>
    have hm0:(0:Int)<m:=by omega
    have hmb:m<268435456:=Nat.lt_of_lt_of_le hm (by
     have:128 ^ (g+1)≤128 ^ 4:=Nat.pow_le_pow_right (by omega) (by omega)
     exact this)
    have hq:m / 128<128 ^ g:=by
     have:128 ^ (g+1)=128 ^ g*128:=by rw [Nat.pow_succ]
     omega
    have HQ:=Lib.hid hq
    have HZ:=Lib.hid hz
    clear hm hq
    go_wp2_with (first
     | (at_builtin;refine yU _ _ rfl rfl (ia (w0:=w) (w:=wr) (x:=128+m % 128) (by omega) HB.out.g rfl (RD.zL _)) (BY.out.grown (za _ _)) (by show 1+L.length≤100000;omega) rfl ?_;intro v' w4 k1 _;have K1:=Lib.hid k1;clear k1))
    go_roundg g
    case measure=>omega
    case rel=>exact ⟨m / 128,_,rfl,HQ.out,K1.out,by rw [List.length_append];exact Nat.le_add_right _ _,by rw [List.length_append];show 1+L.length+g≤5;omega,by rw [HP.out,JU HZ.out,List.append_assoc,Nat.add_comm (m % 128) 128]⟩
theorem ui {w:World}{n:Nat} (hn:n<268435456):Calls Tryz.prog 86 #[.int .i64 n] w (BsE (put n) w):=by
 go_enter Tryz.func86,Tryz.ntmps86
 go_wp2_with (first
  | (go_at_call 128;(with_reducible refine (rh hn).mono ?_);rintro e w2 ⟨p,c,rfl,hb⟩))
 go_ret
 exact ⟨p,c,rfl,hb⟩
theorem bg {w:World}{i:Int}{n:Nat} (hi:i=(n:Int)) (hn:n<268435456):Calls Tryz.prog 37 #[.int .i64 i] w (BsE (put n) w):=by
 subst hi
 go_enter Tryz.func37,Tryz.ntmps37
 go_wp2_with (first
  | (go_at_call 86;(with_reducible refine (ui hn).mono ?_);rintro e w2 ⟨p,c,rfl,hb⟩))
 go_ret
 exact ⟨p,c,rfl,hb⟩
theorem Zx {s:ByteArray} (hs:s.size≤10000):1≤(zw (sb s)).length∧(zw (sb s)).length≤5+s.size:=by
 unfold zw
 rw [kI,List.length_append,kI]
 have:=YN (n:=s.size) (by omega)
 have:=V0 s.size
 omega
theorem Vf {w:World}{s:ByteArray} (hs:s.size≤10000):Calls Tryz.prog 38 #[.string s] w (BsE (zw (sb s)) w):=by
 have hl:=YN (n:=s.size) (by omega)
 go_enter Tryz.func38,Tryz.ntmps38
 go_wp2_with (first
  | (go_at_call 37;(with_reducible refine (bg (n:=s.size) rfl (by omega)).mono ?_);rintro e w2 ⟨p,c,rfl,hb⟩;obtain ⟨cap,w3,hcv,g3,by3⟩:=sP w2 s (by omega);have B3:=Lib.hid (hb.grown g3);have BY:=Lib.hid by3;clear hb g3 by3)
  | (at_builtin;refine yU _ _ rfl rfl B3.out BY.out (by omega) rfl ?_;intro v' w4 k1 _;have K1:=Lib.hid k1;clear k1))
 go_ret
 have hp:=Zx hs
 have k2:=K1.out
 have e:put s.size++sb s=zw (sb s):=by unfold zw;rw [kI]
 rw [e]at k2
 exact bsE k2 (by omega)
end MK
end
end Go.AEv
