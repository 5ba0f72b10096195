/- Changes, their encodings and texts: calls and runs (L10a). Conditions: those of each theorem. -/
import Derived.Test.YtmlimgmmpjhifaaGreatDoorH9x0
set_option maxHeartbeats 8000000
set_option maxRecDepth 100000
set_option linter.all false
namespace Go.AEv
section
open Go Go.Proofs TR
open Go.AuditPlain (hi put hi_step hi_zero)
namespace MK
open Go.AEv.GT (RwAt NewAt)
theorem and127 (n:Nat) (hn:n<2097152):bits .and .u64 (n:Int) 127=((n % 128:Nat):Int):=by
 have:=bits_mask .u64 64 (by decide) (fun n h₀ h₁=>IntWalk.u64_in _ (by omega)) 7 (by decide) (n:Int) (by omega) (by omega)
 have e1:((2:Int) ^ 7-1)=127:=by decide
 have e2:((2:Int) ^ 7)=128:=by decide
 rw [e1,e2]at this
 rw [this]
 omega
theorem or128all:((List.range 128).all fun x=>decide (bits .or .u8 (x:Nat) 128=((x+128:Nat):Int)))=true:=by decide +kernel
theorem or128 (n:Nat) (hn:n<2097152):bits .or .u8 (bits .and .u64 (n:Int) 127 % 256) 128=((n % 128+128:Nat):Int):=by
 rw [and127 n hn,show ((n % 128:Nat):Int) % 256=((n % 128:Nat):Int) by omega]
 have:=List.all_eq_true.1 or128all (n % 128) (List.mem_range.2 (Nat.mod_lt _ (by decide)))
 exact of_decide_eq_true this
theorem rowX_setk {w:World}{x:Nat×Nat×Nat}{k:Nat}{t:TypeId}{vs:List Value}{v:Value} (h:RowAt Tryz.prog w x t vs) (hk:k<vs.length):RowAt Tryz.prog (w.setCell ⟨x.1,x.2.1+k,none⟩ v) x t (vs.set k v):=by
 obtain ⟨arr,fz,h1,h2,h3,h4,h5⟩:=h
 refine ⟨arr.setIfInBounds (x.2.1+k) v,fz,?_,by rw [Array.size_setIfInBounds,List.length_set];exact h2,fun i hi=>h3 i (by rw [Array.size_setIfInBounds]at hi;exact hi),h4,fun j hj=>?_⟩
 ·unfold World.setCell
  show (w.heap.modify x.1 _)[x.1]? = _
  rw [Array.getElem?_modify,if_pos rfl]
  show Option.map _ w.heap[x.1]? = _
  rw [h1]
  rfl
 ·rw [List.length_set]at hj
  rw [Array.getElem?_setIfInBounds,List.getElem?_set]
  by_cases e:k=j
  ·subst e
   rw [if_pos rfl,if_pos rfl,if_pos (by omega),if_pos hk]
  ·rw [if_neg (by omega),if_neg e]
   exact h5 j hj
theorem rowX_cell {w:World}{x:Nat×Nat×Nat}{k:Nat}{t:TypeId}{vs:List Value}{v:Value} (h:RowAt Tryz.prog w x t vs) (hk:vs[k]? = some v):w.cell? ⟨x.1,x.2.1+k,none⟩=some v∧w.frozen? ⟨x.1,x.2.1+k,none⟩=false:=by
 have hlt:=(List.getElem?_eq_some_iff.1 hk).1
 refine ⟨TR.cell_of_row h hk,?_⟩
 obtain ⟨arr,fz,h1,h2,h3,_⟩:=h
 unfold World.frozen?
 rw [h1]
 have:=h3 (x.2.1+k) (by omega)
 show (decide (fz.1≤x.2.1+k)&&decide (x.2.1+k<fz.2))=false
 rw [Bool.and_eq_false_iff,decide_eq_false_iff_not,decide_eq_false_iff_not]
 omega
theorem wrote_set {w:World}{b o n c k:Nat}{v:Value}:Wrote (.slice (some ⟨b,o,none⟩) n c) w (w.setCell ⟨b,k,none⟩ v):=by
 refine ⟨fun j _ h=>?_,by unfold World.setCell;rw [Array.size_modify];exact Nat.le_refl _,rfl,rfl,rfl⟩
 unfold World.setCell
 rw [Array.getElem?_modify,if_neg (h _ _ _ rfl)]
theorem Wrote.trans2 {v:Value}{x y z:World} (h:Wrote v x y) (k:Wrote v y z):Wrote v x z:=
 ⟨fun c hc hn=>by rw [k.keep c (Nat.lt_of_lt_of_le hc h.size) hn,h.keep c hc hn],Nat.le_trans h.size k.size,k.tape.trans h.tape,k.os.trans h.os,k.output.trans h.output⟩
def RevP (w0 w:World) (v:Value) (L:List Nat) (e:Ending) (w2:World):Prop:=e = .returned (.tuple #[])∧Bs w0 w2 v L∧Wrote v w w2
theorem wrote_drw (v:Value) (w:World):Wrote v w w.drew:=⟨fun c hc _=>(grown_drw w).old c hc,(grown_drw w).size,(grown_drw w).tape,(grown_drw w).os,(grown_drw w).output⟩
theorem wrote_refl (v:Value) (w:World):Wrote v w w:=⟨fun _ _ _=>rfl,Nat.le_refl _,rfl,rfl,rfl⟩
theorem rev1 {w0 w:World}{v:Value}{a:Nat} (h:Bs w0 w v [a]):Calls Tryz.prog 129 #[v] w (RevP w0 w v [a]):=by
 obtain ⟨x,hx,hr,hl⟩:∃ x:Nat×Nat×Nat,v = .slice (some ⟨x.1,x.2.1,none⟩) 1 (1+x.2.2)∧RowAt Tryz.prog w x 5 [.int .u8 (a:Nat)]∧w0.heap.size≤x.1:=by
  rcases h.row.ex with ⟨e,_⟩ | h
  ·cases e
  ·exact h
 have H:=Lib.hid h
 clear h
 subst hx
 go_enter Tryz.func129,Tryz.ntmps129
 go_wp2
 go_loopg [2,3] 0 (fun g i j wx=>i = .int .i64 0∧j = .int .i64 0∧wx=w)
 case atStart=>exact ⟨rfl,rfl,rfl⟩
 case round=>
  obtain ⟨rfl,rfl,rfl⟩:=hrel
  go_wp2
  exact ⟨rfl,_,results_none rfl _ _ _,rfl,H.out,wrote_refl _ _⟩
theorem rev2 {w0 w:World}{v:Value}{a b:Nat} (h:Bs w0 w v [a,b]):Calls Tryz.prog 129 #[v] w (RevP w0 w v [b,a]):=by
 obtain ⟨x,hx,hr,hl⟩:∃ x:Nat×Nat×Nat,v = .slice (some ⟨x.1,x.2.1,none⟩) 2 (2+x.2.2)∧RowAt Tryz.prog w x 5 [.int .u8 (a:Nat),.int .u8 (b:Nat)]∧w0.heap.size≤x.1:=by
  rcases h.row.ex with ⟨e,_⟩ | h
  ·cases e
  ·exact h
 have hr1:=rowX_setk (k:=0) (v:=.int .u8 (b:Nat)) hr (by simp)
 have hr2:=rowX_setk (k:=1) (v:=.int .u8 (a:Nat)) hr1 (by simp)
 obtain ⟨c0,f0⟩:=rowX_cell (k:=0) hr rfl
 obtain ⟨c1,f1⟩:=rowX_cell (k:=1) hr rfl
 obtain ⟨d1,g1⟩:=rowX_cell (k:=1) hr1 rfl
 have H:=Lib.hid h
 have R2:RowKit.Hid (Bs w0 ((w.setCell ⟨x.1,x.2.1+0,none⟩ (.int .u8 (b:Nat))).setCell ⟨x.1,x.2.1+1,none⟩ (.int .u8 (a:Nat))) v [b,a]∧Wrote v w ((w.setCell ⟨x.1,x.2.1+0,none⟩ (.int .u8 (b:Nat))).setCell ⟨x.1,x.2.1+1,none⟩ (.int .u8 (a:Nat)))):=by
  refine Lib.hid ?_
  have hw:Wrote v w ((w.setCell ⟨x.1,x.2.1+0,none⟩ (.int .u8 (b:Nat))).setCell ⟨x.1,x.2.1+1,none⟩ (.int .u8 (a:Nat))):=by rw [hx];exact Wrote.trans2 wrote_set wrote_set
  exact ⟨⟨⟨rfl,.inr ⟨x,hx,hr2,hl⟩⟩,fun y hy=>h.lt y (by simp at hy ⊢;omega),GT.wrote_new h.g h.row hw⟩,hw⟩
 clear h hr hr1 hr2 hl
 subst hx
 obtain ⟨x,o,sp⟩:=x
 dsimp only at *
 rw [Nat.add_zero]at *
 go_enter Tryz.func129,Tryz.ntmps129
 go_wp2
 go_loopg [2,3] 1 (fun g i j wx=>(g=1∧i = .int .i64 0∧j = .int .i64 1∧wx=w)∨(i = .int .i64 1∧j = .int .i64 0∧RevP w0 w (.slice (some ⟨x,o,none⟩) 2 (2+sp)) [b,a] (.returned (.tuple #[])) wx))
 case atStart=>exact .inl ⟨rfl,rfl,rfl,rfl⟩
 case round=>
  rcases hrel with ⟨rfl,rfl,rfl,rfl⟩ | ⟨rfl,rfl,hrv⟩
  ·go_wp2
   go_region_law fail
   all_goals (go_wp2;go_roundg 0;(case measure=>omega))
   all_goals (first
    | exact .inr ⟨rfl,rfl,rfl,R2.out⟩
    | exact .inr ⟨rfl,rfl,rfl,R2.out.1.grown (grown_drw _),Wrote.trans2 R2.out.2 (wrote_drw _ _)⟩)
  ·go_wp2
   exact ⟨rfl,_,results_none rfl _ _ _,hrv⟩
theorem rev3 {w0 w:World}{v:Value}{a b d:Nat} (h:Bs w0 w v [a,b,d]):Calls Tryz.prog 129 #[v] w (RevP w0 w v [d,b,a]):=by
 obtain ⟨x,hx,hr,hl⟩:∃ x:Nat×Nat×Nat,v = .slice (some ⟨x.1,x.2.1,none⟩) 3 (3+x.2.2)∧RowAt Tryz.prog w x 5 [.int .u8 (a:Nat),.int .u8 (b:Nat),.int .u8 (d:Nat)]∧w0.heap.size≤x.1:=by
  rcases h.row.ex with ⟨e,_⟩ | h
  ·cases e
  ·exact h
 have hr1:=rowX_setk (k:=0) (v:=.int .u8 (d:Nat)) hr (by simp)
 have hr2:=rowX_setk (k:=2) (v:=.int .u8 (a:Nat)) hr1 (by simp)
 obtain ⟨c0,f0⟩:=rowX_cell (k:=0) hr rfl
 obtain ⟨c1,f1⟩:=rowX_cell (k:=2) hr rfl
 obtain ⟨d1,g1⟩:=rowX_cell (k:=2) hr1 rfl
 have R2:RowKit.Hid (Bs w0 ((w.setCell ⟨x.1,x.2.1+0,none⟩ (.int .u8 (d:Nat))).setCell ⟨x.1,x.2.1+2,none⟩ (.int .u8 (a:Nat))) v [d,b,a]∧Wrote v w ((w.setCell ⟨x.1,x.2.1+0,none⟩ (.int .u8 (d:Nat))).setCell ⟨x.1,x.2.1+2,none⟩ (.int .u8 (a:Nat)))):=by
  refine Lib.hid ?_
  have hw:Wrote v w ((w.setCell ⟨x.1,x.2.1+0,none⟩ (.int .u8 (d:Nat))).setCell ⟨x.1,x.2.1+2,none⟩ (.int .u8 (a:Nat))):=by rw [hx];exact Wrote.trans2 wrote_set wrote_set
  exact ⟨⟨⟨rfl,.inr ⟨x,hx,hr2,hl⟩⟩,fun y hy=>h.lt y (by simp at hy ⊢;omega),GT.wrote_new h.g h.row hw⟩,hw⟩
 clear h hr hr1 hr2 hl
 subst hx
 obtain ⟨x,o,sp⟩:=x
 dsimp only at *
 rw [Nat.add_zero]at *
 go_enter Tryz.func129,Tryz.ntmps129
 go_wp2
 go_loopg [2,3] 1 (fun g i j wx=>(g=1∧i = .int .i64 0∧j = .int .i64 2∧wx=w)∨(i = .int .i64 1∧j = .int .i64 1∧RevP w0 w (.slice (some ⟨x,o,none⟩) 3 (3+sp)) [d,b,a] (.returned (.tuple #[])) wx))
 case atStart=>exact .inl ⟨rfl,rfl,rfl,rfl⟩
 case round=>
  rcases hrel with ⟨rfl,rfl,rfl,rfl⟩ | ⟨rfl,rfl,hrv⟩
  ·go_wp2
   go_region_law fail
   all_goals (go_wp2;go_roundg 0;(case measure=>omega))
   all_goals (first
    | exact .inr ⟨rfl,rfl,rfl,R2.out⟩
    | exact .inr ⟨rfl,rfl,rfl,R2.out.1.grown (grown_drw _),Wrote.trans2 R2.out.2 (wrote_drw _ _)⟩)
  ·go_wp2
   exact ⟨rfl,_,results_none rfl _ _ _,hrv⟩
theorem rev_call {w0 w:World}{v:Value}{L:List Nat} (h:Bs w0 w v L) (h1:1≤L.length) (h3:L.length≤3):Calls Tryz.prog 129 #[v] w (RevP w0 w v L.reverse):=by
 obtain ⟨a,rfl⟩ | ⟨a,b,rfl⟩ | ⟨a,b,d,rfl⟩:(∃ a,L=[a])∨(∃ a b,L=[a,b])∨(∃ a b d,L=[a,b,d]):=by
  rcases L with _ | ⟨a,_ | ⟨b,_ | ⟨d,_ | ⟨e,L⟩⟩⟩⟩
  ·simp at h1
  ·exact .inl ⟨_,rfl⟩
  ·exact .inr (.inl ⟨_,_,rfl⟩)
  ·exact .inr (.inr ⟨_,_,_,rfl⟩)
  ·simp at h3
 ·exact rev1 h
 ·exact rev2 h
 ·exact rev3 h
def GrpP (w:World) (L:List Nat) (e:Ending) (w2:World):Prop:=∃ (p:Option Addr) (c:Nat),e = .returned (.slice p L.length c)∧Bs w w2 (.slice p L.length c) L
theorem groups_call {w:World}{n:Nat} (hn:n<2097152):Calls Tryz.prog 88 #[.int .u64 n] w (fun e w2=>GrpP w (put n) e w2∧(put n).length≤3):=by
 have h127:=and127 n hn
 have hmod:((n % 128:Nat):Int) % 256=((n % 128:Nat):Int):=by omega
 go_enter Tryz.func88,Tryz.ntmps88
 go_wp2
 go_loopg [0,3] 2 (fun g i v wx=>∃ (m:Nat) (L:List Nat),i = .int .u64 m∧m<128 ^ g∧m<2097152∧Bs w wx v L∧1≤L.length∧L.length+g≤3∧hi m++L.reverse=put n)
 case atStart=>exact ⟨n / 128,[n % 128],rfl,by show n / 128<16384;omega,by omega,bs_one (by omega) (RD.grown_refl _) rfl (RD.grown_refl _),Nat.le_refl _,Nat.le_refl _,rfl⟩
 case round=>
  obtain ⟨m,L,rfl,hm,hmb,hb,h1,h5,hp⟩:=hrel
  have HB:=Lib.hid hb
  have few:L.length≤100000:=by omega
  obtain ⟨p,c,e,hby,_⟩:=hb.byL few
  subst e
  have BY:=Lib.hid hby
  have HP:=Lib.hid hp
  clear hb hby hp
  by_cases hz:m=0
  ·subst hz
   go_wp2_with (first
    | (go_at_call 129;(with_reducible refine (rev_call HB.out h1 (by omega)).mono ?_);rintro e w2 ⟨rfl,hr,_⟩;have HR:=Lib.hid hr;clear hr))
   go_ret
   have e0:=HP.out
   rw [hi_zero,List.nil_append]at e0
   rw [← e0,List.length_reverse]
   have:=HR.out
   exact ⟨⟨p,c,by show Ending.returned (.slice p L.length c)=_;rw [List.length_reverse],by rw [List.length_reverse];exact this⟩,by omega⟩
  ·cases gk with
   | zero=>exfalso;simp at hm;omega
   | succ g=>
    have hm0:(0:Int)<m:=by omega
    have hor:=or128 m hmb
    have hq:m / 128<128 ^ g:=by
     have:128 ^ (g+1)=128 ^ g*128:=by rw [Nat.pow_succ]
     omega
    have HQ:=Lib.hid hq
    clear hm hq
    go_wp2_with (first
     | (at_builtin;refine wp_appB _ _ rfl rfl (HB.out.grown (grown_alloc _ _)) (byL_box (y:=m % 128+128) (by omega) rfl) (by show L.length+1≤100000;omega) rfl ?_;intro v' w4 k1 _;have K1:=Lib.hid k1;clear k1))
    go_roundg g
    case measure=>omega
    case rel=>exact ⟨m / 128,_,rfl,HQ.out,by omega,K1.out,by rw [List.length_append];omega,by rw [List.length_append];show L.length+1+g≤3;omega,by rw [List.reverse_append,← HP.out,hi_step hz,List.append_assoc];rfl⟩
end MK
end
section
open Go Go.Proofs TR
open Go.AuditPlain (put putBytes putFlag)
namespace MK
open Go.AEv.GT (RwAt NewAt)
structure Wt (w0 w:World) (b:Nat) (L:List Nat):Prop where
 ex:∃ v,RowAt Tryz.prog w (b,0,0) 170 [v]∧Bs w0 w v L
 low:w0.heap.size≤b
def Fr (b:Nat) (w w2:World):Prop:=∀ c,c<w.heap.size→c≠b→(∀ a n m,w.cell? ⟨b,0,none⟩=some (.slice (some a) n m)→a.block≠c)→w2.heap[c]? = w.heap[c]?
def Kp (w w2:World):Prop:=∀ (x:Nat×Nat×Nat) (t:TypeId) (vs:List Value),RowAt Tryz.prog w x t vs→t≠5→t≠170→RowAt Tryz.prog w2 x t vs
theorem Kp.trans {x y z:World} (h:Kp x y) (k:Kp y z):Kp x z:=fun a t vs r h5 h7=>k a t vs (h a t vs r h5 h7) h5 h7
theorem Kp.of_grown {x y:World} (g:Grown x y):Kp x y:=fun _ _ _ r _ _=>grown_row g r
theorem Wt.g {w0 w:World}{b:Nat}{L:List Nat} (h:Wt w0 w b L):Grown w0 w:=by
 obtain ⟨v,_,hb⟩:=h.ex
 exact hb.g
theorem Wt.grown {w0 w w2:World}{b:Nat}{L:List Nat} (h:Wt w0 w b L) (g:Grown w w2):Wt w0 w2 b L:=by
 obtain ⟨v,hr,hb⟩:=h.ex
 exact ⟨⟨v,grown_row g hr,hb.grown g⟩,h.low⟩
theorem row_typ {w:World}{x y:Nat×Nat×Nat}{t u:TypeId}{vs us:List Value} (h:RowAt Tryz.prog w x t vs) (k:RowAt Tryz.prog w y u us) (hn:t≠u):x.1≠y.1:=fun e=>by
 obtain ⟨a1,f1,h1,_⟩:=h
 obtain ⟨a2,f2,h2,_⟩:=k
 rw [e,h2]at h1
 cases h1
 exact hn rfl
theorem Fr.kp {w0 w w2:World}{b:Nat}{L:List Nat} (h:Wt w0 w b L) (k:Fr b w w2):Kp w w2:=fun x t vs r h5 h7=>by
 obtain ⟨v,hr,hb⟩:=h.ex
 refine row_heap r (k _ (RowAt.lt r) (row_typ r hr h7) fun a n m e he=>?_)
 rw [(rowU_cellF (k:=0) hr rfl).1]at e
 cases e
 rcases hb.row.ex with ⟨_,e⟩ | ⟨y,e,hy,_⟩
 ·cases e
 ·cases e
  exact row_typ r hy h5 he.symm
theorem Bs.setO {w0 w:World}{v u:Value}{L:List Nat}{b k:Nat}{vs:List Value} (h:Bs w0 w v L) (hr:RowAt Tryz.prog w (b,0,0) 170 vs) (hb:w0.heap.size≤b):Bs w0 (w.setCell ⟨b,k,none⟩ u) v L:=
 ⟨⟨h.row.len,h.row.ex.imp id fun ⟨x,e,r,l⟩=>⟨x,e,row_heap r (set_other_heap (row_typ r hr (by decide))),l⟩⟩,h.lt,grown_set h.g hb⟩
theorem hi_len:∀ (k u:Nat),u<128 ^ k→(Go.AuditPlain.hi u).length≤k
 | 0,u,h=>by rw [show u=0 by simpa using h,Go.AuditPlain.hi_zero];exact Nat.le_refl _
 | k+1,u,h=>by
  by_cases h0:u=0
  ·rw [h0,Go.AuditPlain.hi_zero];exact Nat.zero_le _
  ·rw [Go.AuditPlain.hi_step h0,List.length_append]
   have:=hi_len k (u / 128) (by rw [Nat.pow_succ]at h;omega)
   show (Go.AuditPlain.hi (u / 128)).length+1≤k+1
   omega
theorem groups_len {n:Nat} (h:n<2097152):(put n).length≤3:=by
 unfold put
 rw [List.length_append]
 have:=hi_len 2 (n / 128) (by show n / 128<16384;omega)
 show (Go.AuditPlain.hi (n / 128)).length+1≤3
 omega
def RawP (w0 w:World) (b:Nat) (L:List Nat) (e:Ending) (w2:World):Prop:=e = .returned (.tuple #[])∧Wt w0 w2 b L∧Fr b w w2
def WQ (w0 w:World) (b:Nat) (L:List Nat) (e:Ending) (w2:World):Prop:=e = .returned (.tuple #[])∧Wt w0 w2 b L∧Kp w w2
theorem fr_raw {b:Nat}{w w3:World}{v v':Value} (h:w.cell? ⟨b,0,none⟩=some v) (k:Wrote v w w3):Fr b w (w3.setCell ⟨b,0,none⟩ v'):=fun c hc hn hs=>by
 rw [set_other_heap hn]
 exact k.keep c hc fun p n m e=>hs p n m (by rw [h,e])
theorem Fr.grown {b:Nat}{w w1 w2:World}{v:Value} (h:w.cell? ⟨b,0,none⟩=some v) (g:Grown w w1) (k:Fr b w1 w2):Fr b w w2:=fun c hc hn hs=>by
 rw [k c (Nat.lt_of_lt_of_le hc g.size) hn fun a n m e=>hs a n m (by rw [h,← e,RD.cell_grown h g]),g.old c hc]
theorem Wt.cell {w0 w:World}{b:Nat}{L:List Nat} (h:Wt w0 w b L):∃ v,w.cell? ⟨b,0,none⟩=some v:=by
 obtain ⟨v,hr,_⟩:=h.ex
 exact ⟨v,(rowU_cellF (k:=0) hr rfl).1⟩
theorem raw87 {w0 w:World}{b:Nat}{L M:List Nat}{p:Option Addr}{n c:Nat} (h:Wt w0 w b L) (hM:ByL w p n M) (few:L.length+n≤100000):Calls Tryz.prog 87 #[.pointer (some ⟨b,0,none⟩),.slice p n c] w (RawP w0 w b (L++M)):=by
 obtain ⟨v,hr,hb⟩:=h.ex
 have HL:=Lib.hid h.low
 have HR:=Lib.hid hr
 have HB:=Lib.hid hb
 have HM:=Lib.hid hM
 have HF:=Lib.hid few
 obtain ⟨c0,f0⟩:=rowU_cellF (k:=0) hr rfl
 have C0:=Lib.hid c0
 clear h hr hb hM few
 go_enter Tryz.func87,Tryz.ntmps87
 go_wp2_with (at_builtin;refine wp_appB _ _ rfl rfl HB.out HM.out HF.out rfl ?_;intro v' w3 k1 k2;obtain ⟨p3,c3',e3,_⟩:=k1.byL (by rw [List.length_append,HM.out.len];exact HF.out);subst e3;have K1:=Lib.hid k1;have K2:=Lib.hid k2;have hr3:=row_wrote HR.out k2 HB.out.row (by decide);have HR3:=Lib.hid hr3;obtain ⟨c3,f3⟩:=rowU_cellF (k:=0) hr3 rfl;clear k1 k2 hr3)
 exact ⟨rfl,_,results_none rfl _ _ _,rfl,⟨⟨_,rowU_setk (k:=0) HR3.out (by show 0<1;omega),(by have:=K1.out;rw [List.length_append]at this;exact this.setO HR3.out HL.out)⟩,HL.out⟩,fr_raw C0.out K2.out⟩
theorem uint40 {w0 w:World}{b:Nat}{L:List Nat}{n:Nat} (h:Wt w0 w b L) (hn:n<2097152) (few:L.length+3≤100000):Calls Tryz.prog 40 #[.pointer (some ⟨b,0,none⟩),.int .u64 n] w (RawP w0 w b (L++put n)):=by
 have H:=Lib.hid h
 have HF:=Lib.hid few
 clear h few
 go_enter Tryz.func40,Tryz.ntmps40
 go_wp2_with (first
  | (go_at_call 88;(with_reducible refine (groups_call hn).mono ?_);rintro e w1 ⟨⟨p,c,rfl,hb⟩,h3⟩;obtain ⟨_,_,e,hby,_⟩:=hb.byL (by omega);cases e;have G1:=Lib.hid hb.g;have BY:=Lib.hid hby;clear hb hby)
  | (go_at_call 87;(with_reducible refine (raw87 (H.out.grown G1.out) BY.out (by have:=HF.out;omega)).mono ?_);rintro e w2 ⟨rfl,k1,k2⟩;have K1:=Lib.hid k1;have K2:=Lib.hid k2;clear k1 k2))
 exact ⟨rfl,_,results_none rfl _ _ _,rfl,K1.out,K2.out.grown H.out.cell.choose_spec G1.out⟩
def Apart (b:Nat) (p:Option Addr) (w:World):Prop:=∀ q,p=some q→q.block≠b∧∀ a n m,w.cell? ⟨b,0,none⟩=some (.slice (some a) n m)→a.block≠q.block
theorem ByL.fr {w w2:World}{b:Nat}{p:Option Addr}{n:Nat}{M:List Nat} (h:ByL w p n M) (k:Fr b w w2) (hs:Apart b p w):ByL w2 p n M:=by
 refine ⟨fun hn=>?_,h.len,h.few,h.lt⟩
 obtain ⟨b',o,rfl,hc⟩:=h.cs hn
 refine ⟨b',o,rfl,fun j u hj=>?_⟩
 have:=hc j u hj
 rw [World.cell?_of_block (k b' (World.block_lt_of_cell? w _ this) (hs _ rfl).1 (hs _ rfl).2)]
 exact this
theorem bytes89 {w0 w:World}{b:Nat}{L M:List Nat}{p:Option Addr}{n c:Nat} (h:Wt w0 w b L) (hM:ByL w p n M) (hs:Apart b p w) (hn:n<90000) (few:L.length+n≤90000):Calls Tryz.prog 89 #[.pointer (some ⟨b,0,none⟩),.slice p n c] w (WQ w0 w b (L++putBytes M)):=by
 have H:=Lib.hid h
 have HF:=Lib.hid few
 have HM:=Lib.hid hM
 have HS:=Lib.hid hs
 have hw:IntKind.u64.wrap (n:Int)=(n:Int):=IntWalk.u64_in _ (by omega)
 have h3:=Lib.hid (groups_len (n:=n) (by omega))
 clear h few hM hs
 go_enter Tryz.func89,Tryz.ntmps89
 go_wp2_with (first
  | (go_at_call 40;(with_reducible refine (uint40 (n:=n) H.out (by omega) (by have:=HF.out;omega)).mono ?_);rintro e w1 ⟨rfl,k1,k2⟩;have K1:=Lib.hid k1;have K2:=Lib.hid k2;clear k1 k2)
  | (go_at_call 87;(with_reducible refine (raw87 K1.out (HM.out.fr K2.out HS.out) (by rw [List.length_append];have:=HF.out;have:=h3.out;omega)).mono ?_);rintro e w2 ⟨rfl,k1,k2⟩;have L1:=Lib.hid k1;have L2:=Lib.hid k2;clear k1 k2))
 refine ⟨rfl,_,results_none rfl _ _ _,rfl,?_,(Fr.kp H.out K2.out).trans (Fr.kp K1.out L2.out)⟩
 unfold putBytes
 rw [HM.out.len,← List.append_assoc]
 exact L1.out
theorem Wt.fresh {w0 w w1:World}{b:Nat}{L:List Nat} (h:Wt w0 w b L) (g:Grown w w1):Apart b (some ⟨w.heap.size,0,none⟩) w1:=fun q e=>by
 cases e
 obtain ⟨v,hr,hb⟩:=h.ex
 have hlt:b<w.heap.size:=RowAt.lt hr
 refine ⟨by show w.heap.size≠b;omega,fun a n m e he=>?_⟩
 rw [RD.cell_grown (rowU_cellF (k:=0) hr rfl).1 g]at e
 cases e
 rcases hb.row.ex with ⟨_,e⟩ | ⟨y,e,hy,_⟩
 ·cases e
 ·cases e
  have:=RowAt.lt hy
  have he:y.1=w.heap.size:=he
  omega
theorem str41 {w0 w:World}{b:Nat}{L:List Nat}{s:ByteArray} (h:Wt w0 w b L) (hs:s.size<80000) (few:L.length+s.size≤90000):Calls Tryz.prog 41 #[.pointer (some ⟨b,0,none⟩),.string s] w (WQ w0 w b (L++putBytes (sb s))):=by
 obtain ⟨cap,w1,hcv,g1,i1⟩:=conv_b w s (by omega)
 have H:=Lib.hid (h.grown g1)
 have HA:=Lib.hid (h.fresh g1)
 have HF:=Lib.hid few
 have G1:=Lib.hid g1
 have BY:=Lib.hid i1
 clear h few g1 i1
 go_enter Tryz.func41,Tryz.ntmps41
 go_wp2_with (go_at_call 89;(with_reducible refine (bytes89 H.out BY.out HA.out (by omega) HF.out).mono ?_);rintro e w2 ⟨rfl,k1,k2⟩;have K1:=Lib.hid k1;have K2:=Lib.hid k2;clear k1 k2)
 exact ⟨rfl,_,results_none rfl _ _ _,rfl,K1.out,(Kp.of_grown G1.out).trans K2.out⟩
theorem raw1 {w0 w:World}{b:Nat}{L:List Nat}{x c:Nat}{v:Int} (hv:(x:Int)=v) (hx:x<256) (h:Wt w0 w b L) (few:L.length+1≤100000):Calls Tryz.prog 87 #[.pointer (some ⟨b,0,none⟩),.slice (some ⟨w.heap.size,0,none⟩) 1 c] (w.alloc (.cells #[.int .u8 v] 5)) (RawP w0 (w.alloc (.cells #[.int .u8 v] 5)) b (L++[x])):=by
 subst hv
 exact raw87 (h.grown (grown_alloc w _)) (byL_box hx rfl) few
theorem c1:((1:Nat):Int)=1:=rfl
theorem c0:((0:Nat):Int)=0:=rfl
theorem flag42 {w0 w:World}{b:Nat}{L:List Nat}{f:Bool} (h:Wt w0 w b L) (few:L.length+1≤100000):Calls Tryz.prog 42 #[.pointer (some ⟨b,0,none⟩),.bool f] w (WQ w0 w b (L++putFlag f)):=by
 have H:=Lib.hid h
 have HF:=Lib.hid few
 clear h few
 cases f with
 | true=>
  go_enter Tryz.func42,Tryz.ntmps42
  go_wp2_with (go_at_call 87;(with_reducible refine (raw1 c1 (by decide) H.out HF.out).mono ?_);rintro e w2 ⟨rfl,k1,k2⟩;have K1:=Lib.hid k1;have K2:=Lib.hid k2;clear k1 k2)
  exact ⟨rfl,_,results_none rfl _ _ _,rfl,K1.out,(Kp.of_grown (grown_alloc w _)).trans (Fr.kp (H.out.grown (grown_alloc w _)) K2.out)⟩
 | false=>
  go_enter Tryz.func42,Tryz.ntmps42
  go_wp2_with (go_at_call 87;(with_reducible refine (raw1 c0 (by decide) H.out HF.out).mono ?_);rintro e w2 ⟨rfl,k1,k2⟩;have K1:=Lib.hid k1;have K2:=Lib.hid k2;clear k1 k2)
  exact ⟨rfl,_,results_none rfl _ _ _,rfl,K1.out,(Kp.of_grown (grown_alloc w _)).trans (Fr.kp (H.out.grown (grown_alloc w _)) K2.out)⟩
def OutP (w:World) (L:List Nat) (e:Ending) (w2:World):Prop:=∃ (p:Option Addr) (c:Nat),e = .returned (.slice p L.length c)∧RD.In w2 p L∧Grown w w2
theorem out43 {w0 w:World}{b:Nat}{L:List Nat} (h:Wt w0 w b L) (few:L.length≤100000):Calls Tryz.prog 43 #[.pointer (some ⟨b,0,none⟩)] w (OutP w L):=by
 obtain ⟨v,hr,hb⟩:=h.ex
 obtain ⟨p,c,rfl,hby,_⟩:=hb.byL few
 obtain ⟨c0,f0⟩:=rowU_cellF (k:=0) hr rfl
 have HI:RowKit.Hid (RD.In w p L):=Lib.hid ⟨hby.lt,fun hn=>by
  obtain ⟨b',o,e,hc⟩:=hby.cs (fun e=>hn (List.map_eq_nil_iff.1 e))
  exact ⟨b',o,e,fun i x hx=>hc i _ (by rw [List.getElem?_map,hx];rfl)⟩⟩
 clear h hr hb hby
 go_enter Tryz.func43,Tryz.ntmps43
 go_wp2_with (go_at_call 78;(with_reducible refine (RD.clone_call HI.out few).mono ?_);rintro e w1 ⟨p',c',rfl,k1,k2,k3,k4⟩;have K:=Lib.hid (And.intro k3 k1);clear k1 k2 k3 k4)
 go_ret
 exact ⟨p',c',rfl,K.out⟩
def NewW (w:World) (e:Ending) (w2:World):Prop:=∃ b,e = .returned (.pointer (some ⟨b,0,none⟩))∧Wt w w2 b []
theorem new39 {w:World}:Calls Tryz.prog 39 #[] w (NewW w):=by
 go_enter Tryz.func39,Tryz.ntmps39
 go_wp2
 go_ret
 exact ⟨w.heap.size,rfl,⟨⟨_,rowU_box w,⟨⟨rfl,.inl ⟨rfl,rfl⟩⟩,fun _ h=>(by cases h),grown_alloc w _⟩⟩,Nat.le_refl _⟩⟩
theorem Wt.before {w0 w1 w:World}{b:Nat}{L:List Nat} (h:Wt w1 w b L) (g:Grown w0 w1):Wt w0 w b L:=by
 obtain ⟨v,hr,hb⟩:=h.ex
 exact ⟨⟨v,hr,hb.before g⟩,Nat.le_trans g.size h.low⟩
end MK
end
section
open Go Go.Proofs TR
open Go.AuditPlain (put putBytes putFlag)
namespace MK
open Go.AEv.GT (RwAt NewAt)
theorem sb_str {l:List Nat} (h:∀ y∈l,y<256):sb (str l)=l:=by
 unfold sb str
 show ((l.map UInt8.ofNat).toArray.toList.map UInt8.toNat)=l
 rw [List.toList_toArray,List.map_map]
 conv=>rhs;rw [← List.map_id l]
 refine List.map_congr_left fun n hn=>?_
 show (UInt8.ofNat n).toNat=n
 rw [UInt8.toNat_ofNat',Nat.mod_eq_of_lt (h n hn)]
theorem nth_le {c:Pc} (h:Nrm c):∀ j,nth c j≤1000000
 | 0=>h.n0.1
 | 1=>h.n1.1
 | 2=>h.n2.1
 | 3=>h.n3.1
 | 4=>h.n4.1
 | _+5=>h.n5.1
theorem outJ_len {c:Pc} (h:Nrm c):∀ j,(outJ c j).length≤3*(j+1)
 | 0=>groups_len (by have:=h.k;omega)
 | j+1=>by
  have:=outJ_len h j
  have h2:(seg (useB c.k j) (put (nth c j))).length≤3:=by
   unfold seg
   split
   ·exact groups_len (by have:=nth_le h j;omega)
   ·exact Nat.zero_le _
  show (outJ c j++seg (useB c.k j) (put (nth c j))).length≤3*(j+1+1)
  rw [List.length_append]
  omega
theorem pb_len {l:List Nat} (h:l.length<90000):(putBytes l).length≤l.length+3:=by
 unfold putBytes
 rw [List.length_append]
 have:=groups_len (n:=l.length) (by omega)
 omega
theorem seg_len {u:Bool}{l:List Nat}{m:Nat} (h:l.length≤m):(seg u l).length≤m:=by
 unfold seg
 split
 ·exact h
 ·exact Nat.zero_le _
structure BS (w wx:World) (b b1 b3:Nat) (L:List Nat) (c:Pc):Prop where
 wt:Wt w wx b L
 x:RowAt Tryz.prog wx (b1,0,0) 34 c.cells
 f:RowAt Tryz.prog wx (b3,0,0) 78 (useL c.k)
theorem BS.grown {w wx wy:World}{b b1 b3:Nat}{L:List Nat}{c:Pc} (h:BS w wx b b1 b3 L c) (g:Grown wx wy):BS w wy b b1 b3 L c:=⟨h.wt.grown g,grown_row g h.x,grown_row g h.f⟩
theorem BS.kp {w wx wy:World}{b b1 b3:Nat}{L L2:List Nat}{c:Pc} (h:BS w wx b b1 b3 L c) (k:Kp wx wy) (h2:Wt w wy b L2):BS w wy b b1 b3 L2 c:=⟨h2,k _ _ _ h.x (by decide) (by decide),k _ _ _ h.f (by decide) (by decide)⟩
def BJ (w:World) (b b1 b3:Nat) (c:Pc) (n:Nat) (i:Value) (wx:World):Prop:=∃ j:Nat,j+n=6∧i = .int .i64 j∧BS w wx b b1 b3 (outJ c j) c
theorem raw_fr {w0 w:World}{b:Nat}{L L2:List Nat}{e:Ending}{w2:World} (h:Wt w0 w b L) (k:RawP w0 w b L2 e w2):WQ w0 w b L2 e w2:=⟨k.1,k.2.1,Fr.kp h k.2.2⟩
theorem wq_uint {w0 w:World}{b:Nat}{L:List Nat}{n:Nat} (h:Wt w0 w b L) (hn:n<2097152) (few:L.length+3≤100000):Calls Tryz.prog 40 #[.pointer (some ⟨b,0,none⟩),.int .u64 n] w (WQ w0 w b (L++put n)):=(uint40 h hn few).mono fun _ _ k=>raw_fr h k
theorem bytes11 {w:World}{c:Pc} (hc:Nrm c) (hk:1≤c.k) (hE:∀ y∈enc c,y<256):Calls Tryz.prog 11 #[.agg c.cells.toArray] w (OutP w (enc c)):=by
 have HC:=Lib.hid hc
 have HE:=Lib.hid hE
 have h18:=hc.k
 have hkw:IntKind.u64.wrap (c.k:Int)=(c.k:Int):=IntWalk.u64_in _ (by omega)
 have X0:=Lib.hid (rowU_box w (z:=c.cells.toArray) (t:=34))
 obtain ⟨y0,y1,y2,y3,y4,y5,y6,y7,y8,y9,y10,y11⟩:=row12 X0.out
 clear hc hE
 go_enter Tryz.func11,Tryz.ntmps11
 go_upto_region 5 with (first
  | (go_at_call 15;(with_reducible refine (check_ok HC.out hk).mono ?_);rintro e w2 ⟨rfl,g2⟩;have G2:=Lib.hid g2;clear y1 y2 y3 y4 y5 y6 y7 y8 y9 y10 y11;have y0:=RD.cell_grown y0 g2;clear g2)
  | (go_at_call 31;(with_reducible refine (uses31_call (k:=c.k) (by omega)).mono ?_);rintro e w4 ⟨rfl,g4⟩;have G4:=Lib.hid g4;clear g4)
  | (go_at_call 39;(with_reducible refine new39.mono ?_);rintro e w6 ⟨b,rfl,hw6⟩;have H6:=Lib.hid hw6;clear hw6))
 have GA:=Lib.hid ((grown_alloc w (.cells c.cells.toArray 34)).trans' (G2.out.trans' (G4.out.trans' (grown_alloc w4 (.cells #[.bool (useB c.k 0),.bool (useB c.k 1),.bool (useB c.k 2),.bool (useB c.k 3),.bool (useB c.k 4),.bool (useB c.k 5),.bool (useB c.k 6),.bool (useB c.k 7),.bool (useB c.k 8)] 78)))))
 have S0:RowKit.Hid (BS w w6 b w.heap.size w4.heap.size [] c):=Lib.hid ⟨H6.out.before GA.out,grown_row (G2.out.trans' (G4.out.trans' ((grown_alloc w4 (.cells #[.bool (useB c.k 0),.bool (useB c.k 1),.bool (useB c.k 2),.bool (useB c.k 3),.bool (useB c.k 4),.bool (useB c.k 5),.bool (useB c.k 6),.bool (useB c.k 7),.bool (useB c.k 8)] 78)).trans' H6.out.g))) X0.out,grown_row H6.out.g (rowU_box w4)⟩
 obtain ⟨b1,hb1⟩:∃ b1,b1=w.heap.size:=⟨_,rfl⟩
 obtain ⟨b3,hb3⟩:∃ b3,b3=w4.heap.size:=⟨_,rfl⟩
 rw [← hb1,← hb3]at S0
 rw [← hb1,← hb3]
 clear hb1 hb3 GA G2 G4 H6 X0 y0
 have y0:=(rowU_cellF (k:=0) S0.out.x rfl).1
 go_upto_region 6 with (first
  | (go_at_call 40;(with_reducible refine (wq_uint (n:=c.k) S0.out.wt (by omega) (by decide)).mono ?_);rintro e w7 ⟨rfl,k1,k2⟩;have S1:=Lib.hid (S0.out.kp k2 k1);clear k1 k2 y0))
 go_cut [19,20] from 5 to 66 (fun s19 s20 wx=>s19=ptrs b1∧s20 = .int .i64 0∧BS w wx b b1 b3 (put c.k) c)
 case first=>
  go_wp2_with (first
   | (go_at_call 32;(with_reducible refine (nums32_call S1.out.x).mono ?_);rintro e w8 ⟨rfl,g8⟩;have S2:=Lib.hid (S1.out.grown g8);clear g8))
  go_meet
  case rel=>exact ⟨rfl,rfl,S2.out⟩
 case rest=>
  obtain ⟨rfl,rfl,hst⟩:=hcut
  have S2:=Lib.hid hst
  clear hst S0 S1
  go_wp2_with fail
  go_loopg [20] 6 (fun n i wx=>BJ w b b1 b3 c n i wx)
  case atStart=>exact ⟨0,rfl,rfl,S2.out⟩
  case round=>
   obtain ⟨j,hj,hi,hst⟩:=hrel
   have SJ:=Lib.hid hst
   clear hst S2
   cases gk with
   | succ n=>
    have hj6:j=0∨j=1∨j=2∨j=3∨j=4∨j=5:=by omega
    rcases hj6 with rfl | rfl | rfl | rfl | rfl | rfl
    ·have hi':_=Value.int .i64 0:=hi
     subst hi'
     have fj:=(rowU_cellF (k:=0) SJ.out.f rfl).1
     have xj:=(rowU_cellF (k:=1) SJ.out.x rfl).1
     have hn:=HC.out.n0.1
     have hnw:IntKind.u64.wrap (c.n0:Int)=(c.n0:Int):=IntWalk.u64_in _ (by omega)
     have hp:=fun w1=>(ptr_at b1 w1).1
     go_wp2_with (first
      | (go_at_call 40;(with_reducible refine (wq_uint (n:=c.n0) SJ.out.wt (by omega) (by have:=outJ_len HC.out 0;omega)).mono ?_);rintro e w7 ⟨rfl,k1,k2⟩;have S7:=Lib.hid (SJ.out.kp k2 k1);clear k1 k2))
     ·have hu:useB c.k 0=true:=‹useB c.k 0=true›
      have ho:outJ c (0+1)=outJ c 0++put c.n0:=by show outJ c 0++seg (useB c.k 0) (put c.n0)=_;rw [seg_t hu]
      go_roundg n
      case measure=>omega
      case rel=>exact ⟨1,by omega,rfl,(by rw [ho];exact S7.out)⟩
     ·have hu:useB c.k 0=false:=‹useB c.k 0=false›
      have ho:outJ c (0+1)=outJ c 0:=by show outJ c 0++seg (useB c.k 0) _=_;rw [seg_f hu];exact List.append_nil _
      go_roundg n
      case measure=>omega
      case rel=>exact ⟨1,by omega,rfl,(by rw [ho];exact SJ.out)⟩
    ·have hi':_=Value.int .i64 1:=hi
     subst hi'
     have fj:=(rowU_cellF (k:=1) SJ.out.f rfl).1
     have xj:=(rowU_cellF (k:=2) SJ.out.x rfl).1
     have hn:=HC.out.n1.1
     have hnw:IntKind.u64.wrap (c.n1:Int)=(c.n1:Int):=IntWalk.u64_in _ (by omega)
     have hp:=fun w1=>(ptr_at b1 w1).2.1
     go_wp2_with (first
      | (go_at_call 40;(with_reducible refine (wq_uint (n:=c.n1) SJ.out.wt (by omega) (by have:=outJ_len HC.out 1;omega)).mono ?_);rintro e w7 ⟨rfl,k1,k2⟩;have S7:=Lib.hid (SJ.out.kp k2 k1);clear k1 k2))
     ·have hu:useB c.k 1=true:=‹useB c.k 1=true›
      have ho:outJ c (1+1)=outJ c 1++put c.n1:=by show outJ c 1++seg (useB c.k 1) (put c.n1)=_;rw [seg_t hu]
      go_roundg n
      case measure=>omega
      case rel=>exact ⟨2,by omega,rfl,(by rw [ho];exact S7.out)⟩
     ·have hu:useB c.k 1=false:=‹useB c.k 1=false›
      have ho:outJ c (1+1)=outJ c 1:=by show outJ c 1++seg (useB c.k 1) _=_;rw [seg_f hu];exact List.append_nil _
      go_roundg n
      case measure=>omega
      case rel=>exact ⟨2,by omega,rfl,(by rw [ho];exact SJ.out)⟩
    ·have hi':_=Value.int .i64 2:=hi
     subst hi'
     have fj:=(rowU_cellF (k:=2) SJ.out.f rfl).1
     have xj:=(rowU_cellF (k:=3) SJ.out.x rfl).1
     have hn:=HC.out.n2.1
     have hnw:IntKind.u64.wrap (c.n2:Int)=(c.n2:Int):=IntWalk.u64_in _ (by omega)
     have hp:=fun w1=>(ptr_at b1 w1).2.2.1
     go_wp2_with (first
      | (go_at_call 40;(with_reducible refine (wq_uint (n:=c.n2) SJ.out.wt (by omega) (by have:=outJ_len HC.out 2;omega)).mono ?_);rintro e w7 ⟨rfl,k1,k2⟩;have S7:=Lib.hid (SJ.out.kp k2 k1);clear k1 k2))
     ·have hu:useB c.k 2=true:=‹useB c.k 2=true›
      have ho:outJ c (2+1)=outJ c 2++put c.n2:=by show outJ c 2++seg (useB c.k 2) (put c.n2)=_;rw [seg_t hu]
      go_roundg n
      case measure=>omega
      case rel=>exact ⟨3,by omega,rfl,(by rw [ho];exact S7.out)⟩
     ·have hu:useB c.k 2=false:=‹useB c.k 2=false›
      have ho:outJ c (2+1)=outJ c 2:=by show outJ c 2++seg (useB c.k 2) _=_;rw [seg_f hu];exact List.append_nil _
      go_roundg n
      case measure=>omega
      case rel=>exact ⟨3,by omega,rfl,(by rw [ho];exact SJ.out)⟩
    ·have hi':_=Value.int .i64 3:=hi
     subst hi'
     have fj:=(rowU_cellF (k:=3) SJ.out.f rfl).1
     have xj:=(rowU_cellF (k:=4) SJ.out.x rfl).1
     have hn:=HC.out.n3.1
     have hnw:IntKind.u64.wrap (c.n3:Int)=(c.n3:Int):=IntWalk.u64_in _ (by omega)
     have hp:=fun w1=>(ptr_at b1 w1).2.2.2.1
     go_wp2_with (first
      | (go_at_call 40;(with_reducible refine (wq_uint (n:=c.n3) SJ.out.wt (by omega) (by have:=outJ_len HC.out 3;omega)).mono ?_);rintro e w7 ⟨rfl,k1,k2⟩;have S7:=Lib.hid (SJ.out.kp k2 k1);clear k1 k2))
     ·have hu:useB c.k 3=true:=‹useB c.k 3=true›
      have ho:outJ c (3+1)=outJ c 3++put c.n3:=by show outJ c 3++seg (useB c.k 3) (put c.n3)=_;rw [seg_t hu]
      go_roundg n
      case measure=>omega
      case rel=>exact ⟨4,by omega,rfl,(by rw [ho];exact S7.out)⟩
     ·have hu:useB c.k 3=false:=‹useB c.k 3=false›
      have ho:outJ c (3+1)=outJ c 3:=by show outJ c 3++seg (useB c.k 3) _=_;rw [seg_f hu];exact List.append_nil _
      go_roundg n
      case measure=>omega
      case rel=>exact ⟨4,by omega,rfl,(by rw [ho];exact SJ.out)⟩
    ·have hi':_=Value.int .i64 4:=hi
     subst hi'
     have fj:=(rowU_cellF (k:=4) SJ.out.f rfl).1
     have xj:=(rowU_cellF (k:=5) SJ.out.x rfl).1
     have hn:=HC.out.n4.1
     have hnw:IntKind.u64.wrap (c.n4:Int)=(c.n4:Int):=IntWalk.u64_in _ (by omega)
     have hp:=fun w1=>(ptr_at b1 w1).2.2.2.2.1
     go_wp2_with (first
      | (go_at_call 40;(with_reducible refine (wq_uint (n:=c.n4) SJ.out.wt (by omega) (by have:=outJ_len HC.out 4;omega)).mono ?_);rintro e w7 ⟨rfl,k1,k2⟩;have S7:=Lib.hid (SJ.out.kp k2 k1);clear k1 k2))
     ·have hu:useB c.k 4=true:=‹useB c.k 4=true›
      have ho:outJ c (4+1)=outJ c 4++put c.n4:=by show outJ c 4++seg (useB c.k 4) (put c.n4)=_;rw [seg_t hu]
      go_roundg n
      case measure=>omega
      case rel=>exact ⟨5,by omega,rfl,(by rw [ho];exact S7.out)⟩
     ·have hu:useB c.k 4=false:=‹useB c.k 4=false›
      have ho:outJ c (4+1)=outJ c 4:=by show outJ c 4++seg (useB c.k 4) _=_;rw [seg_f hu];exact List.append_nil _
      go_roundg n
      case measure=>omega
      case rel=>exact ⟨5,by omega,rfl,(by rw [ho];exact SJ.out)⟩
    ·have hi':_=Value.int .i64 5:=hi
     subst hi'
     have fj:=(rowU_cellF (k:=5) SJ.out.f rfl).1
     have xj:=(rowU_cellF (k:=6) SJ.out.x rfl).1
     have hn:=HC.out.n5.1
     have hnw:IntKind.u64.wrap (c.n5:Int)=(c.n5:Int):=IntWalk.u64_in _ (by omega)
     have hp:=fun w1=>(ptr_at b1 w1).2.2.2.2.2
     go_wp2_with (first
      | (go_at_call 40;(with_reducible refine (wq_uint (n:=c.n5) SJ.out.wt (by omega) (by have:=outJ_len HC.out 5;omega)).mono ?_);rintro e w7 ⟨rfl,k1,k2⟩;have S7:=Lib.hid (SJ.out.kp k2 k1);clear k1 k2))
     ·have hu:useB c.k 5=true:=‹useB c.k 5=true›
      have ho:outJ c (5+1)=outJ c 5++put c.n5:=by show outJ c 5++seg (useB c.k 5) (put c.n5)=_;rw [seg_t hu]
      go_roundg n
      case measure=>omega
      case rel=>exact ⟨6,by omega,rfl,(by rw [ho];exact S7.out)⟩
     ·have hu:useB c.k 5=false:=‹useB c.k 5=false›
      have ho:outJ c (5+1)=outJ c 5:=by show outJ c 5++seg (useB c.k 5) _=_;rw [seg_f hu];exact List.append_nil _
      go_roundg n
      case measure=>omega
      case rel=>exact ⟨6,by omega,rfl,(by rw [ho];exact SJ.out)⟩
   | zero=>
    obtain rfl:j=6:=by omega
    have hi':_=Value.int .i64 6:=hi
    subst hi'
    have l6:=outJ_len HC.out 6
    have f6:=(rowU_cellF (k:=6) SJ.out.f rfl).1
    go_upto_if 36 with fail
    go_cut [] from 5 to 66 (fun wx=>BS w wx b b1 b3 (outJ c 6++seg (useB c.k 6) (putBytes c.nm)) c)
    case first=>
     have x7:=(rowU_cellF (k:=7) SJ.out.x rfl).1
     have hl:=HC.out.nm.1
     go_wp2_with (first
      | (go_at_call 41;(with_reducible refine (str41 (s:=str c.nm) SJ.out.wt (by rw [str_len];omega) (by rw [str_len];omega)).mono ?_);rintro e w7 ⟨rfl,k1,k2⟩;have S7:=Lib.hid (SJ.out.kp k2 k1);clear k1 k2))
     ·have hu:useB c.k 6=true:=‹useB c.k 6=true›
      have hlt:∀ y∈c.nm,y<256:=fun y hy=>HE.out y (by unfold enc;rw [seg_t hu];simp [putBytes,hy])
      go_meet
      case rel=>rw [seg_t hu,← sb_str hlt];exact S7.out
     ·have hu:useB c.k 6=false:=‹useB c.k 6=false›
      go_meet
      case rel=>rw [seg_f hu,List.append_nil];exact SJ.out
    case rest=>
     have SA:=Lib.hid hcut
     have la:RowKit.Hid ((outJ c 6++seg (useB c.k 6) (putBytes c.nm)).length≤40):=Lib.hid (by
      rw [List.length_append]
      have h1:=HC.out.nm.1
      have:=seg_len (u:=useB c.k 6) (l:=putBytes c.nm) (m:=15) (by have:=pb_len (l:=c.nm) (by omega);omega)
      omega)
     clear hcut SJ f6
     have f7:=(rowU_cellF (k:=7) SA.out.f rfl).1
     go_upto_if 42 with fail
     go_cut [] from 5 to 66 (fun wx=>BS w wx b b1 b3 (outJ c 6++seg (useB c.k 6) (putBytes c.nm)++seg (useB c.k 7) (putBytes c.tx)) c)
     case first=>
      have x8:=(rowU_cellF (k:=8) SA.out.x rfl).1
      have hl:=HC.out.tx.1
      go_wp2_with (first
       | (go_at_call 41;(with_reducible refine (str41 (s:=str c.tx) SA.out.wt (by rw [str_len];omega) (by rw [str_len];have:=la.out;omega)).mono ?_);rintro e w7 ⟨rfl,k1,k2⟩;have S7:=Lib.hid (SA.out.kp k2 k1);clear k1 k2))
      ·have hu:useB c.k 7=true:=‹useB c.k 7=true›
       have hlt:∀ y∈c.tx,y<256:=fun y hy=>HE.out y (by unfold enc;rw [seg_t hu];simp [putBytes,hy])
       go_meet
       case rel=>rw [seg_t hu,← sb_str hlt];exact S7.out
      ·have hu:useB c.k 7=false:=‹useB c.k 7=false›
       go_meet
       case rel=>rw [seg_f hu,List.append_nil];exact SA.out
     case rest=>
      have SB:=Lib.hid hcut
      have lb:RowKit.Hid ((outJ c 6++seg (useB c.k 6) (putBytes c.nm)++seg (useB c.k 7) (putBytes c.tx)).length≤8100):=Lib.hid (by
       rw [List.length_append]
       have h1:=HC.out.tx.1
       have:=seg_len (u:=useB c.k 7) (l:=putBytes c.tx) (m:=8003) (by have:=pb_len (l:=c.tx) (by omega);omega)
       have:=la.out
       omega)
      clear hcut SA f7
      have f8:=(rowU_cellF (k:=8) SB.out.f rfl).1
      go_upto_if 48 with fail
      go_cut [] from 5 to 66 (fun wx=>BS w wx b b1 b3 (enc c) c)
      case first=>
       have x9:=(rowU_cellF (k:=9) SB.out.x rfl).1
       have hla:=HC.out.ac.1
       have hlp:=HC.out.pa.1
       have ha:=fun h:sb (str c.ac)=c.ac=>pb_len (l:=sb (str c.ac)) (by rw [h];omega)
       by_cases hu:useB c.k 8=true
       ·have hnf:∀ {P:Prop},useB c.k 8=false→P:=fun h=>by rw [hu]at h;cases h
        have hlt1:sb (str c.ac)=c.ac:=sb_str fun y hy=>HE.out y (by unfold enc;rw [seg_t hu];simp [putBytes,hy])
        have hlt2:sb (str c.pa)=c.pa:=sb_str fun y hy=>HE.out y (by unfold enc;rw [seg_t hu];simp [putBytes,hy])
        have l1:=pb_len (l:=c.ac) (by omega)
        have l2:=pb_len (l:=c.pa) (by omega)
        go_wp2_with (first
         | (go_at_call 41;(with_reducible refine (str41 (s:=str c.ac) SB.out.wt (by rw [str_len];omega) (by rw [str_len];have:=lb.out;omega)).mono ?_);rintro e w7 ⟨rfl,k1,k2⟩;rw [hlt1]at k1;have S7:=Lib.hid (SB.out.kp k2 k1);clear k1 k2 x9;have x10:=(rowU_cellF (k:=10) S7.out.x rfl).1)
         | (go_at_call 41;(with_reducible refine (str41 (s:=str c.pa) S7.out.wt (by rw [str_len];omega) (by rw [str_len,List.length_append];have:=lb.out;omega)).mono ?_);rintro e w8 ⟨rfl,k1,k2⟩;rw [hlt2]at k1;have S8:=Lib.hid (S7.out.kp k2 k1);clear k1 k2 x10;have x11:=(rowU_cellF (k:=11) S8.out.x rfl).1)
         | (go_at_call 42;(with_reducible refine (flag42 (f:=c.dp) S8.out.wt (by rw [List.length_append,List.length_append];have:=lb.out;omega)).mono ?_);rintro e w9 ⟨rfl,k1,k2⟩;have S9:=Lib.hid (S8.out.kp k2 k1);clear k1 k2))
        ·go_meet
         case rel=>unfold enc;rw [seg_t hu];have:=S9.out;simp only [List.append_assoc]at this ⊢;exact this
        ·exact hnf ‹useB c.k 8=false›
       ·have hu:useB c.k 8=false:=by simpa using hu
        go_wp2_with fail
        go_meet
        case rel=>unfold enc;rw [seg_f hu,List.append_nil];exact SB.out
      case rest=>
       have SC:=Lib.hid hcut
       have lc:RowKit.Hid ((enc c).length≤90000):=Lib.hid (by
        unfold enc
        rw [List.length_append]
        have h1:=HC.out.ac.1
        have h2:=HC.out.pa.1
        have:=seg_len (u:=useB c.k 8) (l:=putBytes c.ac++putBytes c.pa++putFlag c.dp) (m:=200) (by
         have l1:=pb_len (l:=c.ac) (by omega)
         have l2:=pb_len (l:=c.pa) (by omega)
         have l3:(putFlag c.dp).length=1:=by unfold putFlag;split<;>rfl
         rw [List.length_append,List.length_append]
         omega)
        have:=lb.out
        omega)
       clear hcut SB f8
       go_wp2_with (first
        | (go_at_call 43;(with_reducible refine (out43 SC.out.wt (by have:=lc.out;omega)).mono ?_);rintro e w9 ⟨p,cp,rfl,hin,g9⟩;have R:=Lib.hid (And.intro hin (SC.out.wt.g.trans' g9));clear hin g9))
       go_ret
       exact ⟨p,cp,rfl,R.out⟩
end MK
end
section
open Go Go.Proofs TR
namespace MK
theorem eq13 {w:World}{p q:Option Addr}{M:List Nat}{c d:Nat} (h1:RD.In w p M) (h2:RD.In w q M) (hn:M≠[]) (few:M.length≤100000):Calls Tryz.prog 13 #[.slice p M.length c,.slice q M.length d] w (GrV (.bool true) w):=by
 obtain ⟨b1,o1,rfl,hc1⟩:=h1.2 hn
 obtain ⟨b2,o2,rfl,hc2⟩:=h2.2 hn
 obtain ⟨n,hnn⟩:∃ n,n=M.length:=⟨_,rfl⟩
 have HC:=Lib.hid (And.intro hc1 (And.intro hc2 hnn))
 rw [← hnn]at few ⊢
 clear h1 h2 hn hc1 hc2 hnn
 go_enter Tryz.func13,Tryz.ntmps13
 go_wp2
 go_loopg [13] n (fun g i wx=>∃ j:Nat,j+g=n∧i = .int .i64 j∧Grown w wx)
 case atStart=>exact ⟨0,by omega,rfl,RD.grown_refl _⟩
 case round=>
  obtain ⟨j,hj,rfl,hg⟩:=hrel
  cases gk with
  | zero=>
   have hjn:¬ ((j:Int)<(n:Int)):=by omega
   have G:=Lib.hid hg
   clear hg
   go_wp2
   go_ret
   exact ⟨rfl,G.out⟩
  | succ g=>
   have hjn:(j:Int)<(n:Int):=by omega
   obtain ⟨x,hx⟩:∃ x,M[j]? = some x:=⟨_,List.getElem?_eq_getElem (by have:=HC.out.2.2;omega)⟩
   have g1:=RD.cell_grown (HC.out.1 j x hx) hg
   have g2:=RD.cell_grown (HC.out.2.1 j x hx) hg
   have G:=Lib.hid hg
   clear hg hx
   go_wp2_with fail
   go_region_law fail
   all_goals (go_wp2;go_roundg g;(case measure=>omega))
   all_goals exact ⟨j+1,by omega,rfl,(by first | exact G.out | exact G.out.trans' (grown_drw _))⟩
end MK
end
end Go.AEv
