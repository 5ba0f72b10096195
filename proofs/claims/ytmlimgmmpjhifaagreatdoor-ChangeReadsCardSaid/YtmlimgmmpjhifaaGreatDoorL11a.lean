/- Changes, their encodings and texts: calls and runs (L11a). Conditions: those of each theorem. -/
import Derived.Test.YtmlimgmmpjhifaaGreatDoorH10x0
import Derived.ProofKit
import Derived.Deep.Slices
set_option maxRecDepth 100000
set_option linter.all false
namespace Go.Proofs.YtmlimgmmpjhifaaGreatDoor
open Go.ChangeShapes Go.WideShapes Go.ChangeAt Go.RowKit
open Go.AEv.MK (ByL TabA tabs)
theorem c5:Tryz.prog.cellsOf 5=1:=by kernel_rfl
theorem c22:Tryz.prog.cellsOf 22=1:=by kernel_rfl
theorem c93:Tryz.prog.cellsOf 93=1:=by kernel_rfl
theorem own:ownKnob Tryz.prog.godebug=none:=by kernel_rfl
theorem cell_of_take {l:List Value}{j:Nat}{v:Value} (h:(l.drop j).take 1=[v]):l[j]? = some v:=by
 have:=congrArg (fun m=>m[0]?) h
 simpa using this
theorem u8_nat {n:Int} (w:(Lit.int .u8 n).wf=true):∃ m:Nat,n=m∧m<256:=by
 have h1:IntKind.u8.min=0:=rfl
 have h2:IntKind.u8.max=255:=rfl
 simp only [Lit.wf,Bool.and_eq_true,decide_eq_true_eq,h1,h2]at w
 exact ⟨n.toNat,by omega,by omega⟩
theorem choose_all {p:Nat→Nat→Prop}{n:Nat} (h:∀ i,i<n→∃ b,p i b):∃ B:Nat→Nat,∀ i,i<n→p i (B i):=by
 exact ⟨fun i=>if hi:i<n then (h i hi).choose else 0,fun i hi=>by show p i (if hi:i<n then (h i hi).choose else 0);rw [dif_pos hi];exact (h i hi).choose_spec⟩
section
variable {H:Type}{enc:TypeId×Value→H}{W:World}
theorem open_by {n:Nat}{cs:List Value}{x:DataW H×List MemPlace}{t:TypeId} (ht:Tryz.prog.underlying t=some (.slice 5)) (h:DataW.trod enc Tryz.prog W 0 (fun _=>true) true n t cs=some x):∃ p m c L,cs=[.slice p m c]∧m≤c∧ByL W p m L:=by
 rcases Go.Deep.open_slice1 ht c5 h with ⟨rfl,_⟩ | ⟨a,len,cap,m,k,V,D,Pl,rfl,_,hle,hmax,hm,_,hx⟩
 ·exact ⟨none,0,0,[],rfl,Nat.le_refl _,fun h=>absurd rfl h,rfl,Nat.zero_le _,fun x hx=>by cases hx⟩
 ·have hm:m=cap:=hm
  subst hm
  have hB:∀ i,i<m→∃ b:Nat,W.cell? (a.add i)=some (.int .u8 (b:Nat))∧b<256:=by
   intro i hi
   obtain ⟨h1,h2⟩:=hx i hi
   obtain ⟨z,e,_,wz⟩:=DataW.trod_int Tryz.underlying5 h2
   obtain ⟨b,rfl,hb⟩:=u8_nat wz
   refine ⟨b,?_,hb⟩
   rw [h1]
   exact congrArg some (List.singleton_inj.1 e)
  obtain ⟨B,hB⟩:=choose_all hB
  have hget:∀ (i x:Nat),((List.range len).map B)[i]? = some x→i<len∧x=B i:=by
   intro i x hx
   rw [List.getElem?_map]at hx
   obtain ⟨j,hj,rfl⟩:=Option.map_eq_some_iff.1 hx
   have hi:=(List.getElem?_eq_some_iff.1 hj).1
   rw [List.length_range]at hi
   rw [List.getElem?_range hi]at hj
   cases hj
   exact ⟨hi,rfl⟩
  have hmax':m≤9223372036854775807:=hmax
  refine ⟨some a,len,m,(List.range len).map B,rfl,hle,?_,by simp,by omega,?_⟩
  ·intro hne
   have h0:0<len:=by
    rcases Nat.eq_zero_or_pos len with h | h
    ·subst h;exact absurd rfl hne
    ·exact h
   have hspot:a.spot=none:=by
    obtain ⟨h1,_⟩:=hB 0 (by omega)
    have h1:W.cell? a=some (.int .u8 (B 0:Nat)):=by
     have e:a.add 0=a:=by unfold Addr.add;simp
     rwa [e]at h1
    unfold World.cell? at h1
    split at h1
    ·split at h1
     ·cases h1
     ·rename_i hs
      cases ha:a.spot with
      | none=>rfl
      | some z=>rw [ha]at hs;exact absurd rfl hs
    ·cases h1
   obtain ⟨ab,ao,sp⟩:=a
   have hspot:sp=none:=hspot
   subst hspot
   refine ⟨ab,ao,rfl,fun i x hx=>?_⟩
   rw [List.getElem?_map]at hx
   obtain ⟨y,hy,rfl⟩:=Option.map_eq_some_iff.1 hx
   obtain ⟨hi,rfl⟩:=hget i y hy
   have h1:=(hB i (by omega)).1
   rwa [Addr.add_lit]at h1
  ·intro x hx
   obtain ⟨i,hi⟩:=List.getElem?_of_mem hx
   obtain ⟨h1,rfl⟩:=hget i x hi
   exact (hB i (by omega)).2
theorem open_u8 {n:Nat}{cs:List Value}{x:DataW H×List MemPlace} (h:DataW.trod enc Tryz.prog W 0 (fun _=>true) true n 5 (cs.take (Tryz.prog.cellsOf 5))=some x):∃ b:Nat,b<256∧cs.take 1=[.int .u8 (b:Nat)]:=by
 rw [c5]at h
 obtain ⟨z,e,_,wz⟩:=DataW.trod_int Tryz.underlying5 h
 obtain ⟨b,rfl,hb⟩:=u8_nat wz
 exact ⟨b,hb,e⟩
theorem open_raw {base:Nat}{v:Value}{d:DataW H}{ps:List MemPlace} (hv:Value.okWide Tryz.prog W .any base 24 v) (h:DataW.Trod enc Tryz.prog W 0 (fun _=>true) true 24 v d ps) :
  ∃ (k0 k1 k2 k3 k4 k5:Nat) (p:Option Addr) (n c:Nat) (L:List Nat),v = .agg #[.int .u8 (k0:Nat),.int .u8 (k1:Nat),.int .u8 (k2:Nat),.int .u8 (k3:Nat),.int .u8 (k4:Nat),.int .u8 (k5:Nat),.slice p n c]∧k0<256∧k1<256∧k2<256∧k3<256∧k4<256∧k5<256∧n≤c∧ByL W p n L:=by
 obtain ⟨cs,rfl,hsz⟩:=okWide_struct Tryz.underlying24 hv
 obtain ⟨fuel,hf⟩:=h
 have hf:DataW.trod enc Tryz.prog W 0 (fun _=>true) true fuel 24 cs.toList=some (d,ps):=hf
 obtain ⟨xs,n,rfl,_,hlen,hx,hfl⟩:=DataW.trod_struct Tryz.underlying24 hf
 have k24:Tryz.prog.cellsOf 24=7:=by kernel_rfl
 rw [k24]at hlen
 have hx7:xs.length=7:=hx
 have at_:∀ i,i<7→∃ y,xs[i]? = some y:=fun i hi=>⟨_,List.getElem?_eq_getElem (by omega)⟩
 obtain ⟨y0,z0⟩:=at_ 0 (by decide)
 obtain ⟨y1,z1⟩:=at_ 1 (by decide)
 obtain ⟨y2,z2⟩:=at_ 2 (by decide)
 obtain ⟨y3,z3⟩:=at_ 3 (by decide)
 obtain ⟨y4,z4⟩:=at_ 4 (by decide)
 obtain ⟨y5,z5⟩:=at_ 5 (by decide)
 obtain ⟨y6,z6⟩:=at_ 6 (by decide)
 obtain ⟨a0,b0,e0⟩:=open_u8 ((hfl 0 _ rfl).trans z0)
 obtain ⟨a1,b1,e1⟩:=open_u8 ((hfl 1 _ rfl).trans z1)
 obtain ⟨a2,b2,e2⟩:=open_u8 ((hfl 2 _ rfl).trans z2)
 obtain ⟨a3,b3,e3⟩:=open_u8 ((hfl 3 _ rfl).trans z3)
 obtain ⟨a4,b4,e4⟩:=open_u8 ((hfl 4 _ rfl).trans z4)
 obtain ⟨a5,b5,e5⟩:=open_u8 ((hfl 5 _ rfl).trans z5)
 obtain ⟨p,m,c,L,e6,hle,hB⟩:=open_by Tryz.underlying22 ((hfl 6 _ rfl).trans z6)
 have e6:(cs.toList.drop 6).take 1=[.slice p m c]:=by rw [← c22];exact e6
 refine ⟨a0,a1,a2,a3,a4,a5,p,m,c,L,?_,b0,b1,b2,b3,b4,b5,hle,hB⟩
 congr 1
 apply Array.toList_inj.1
 apply List.ext_getElem?
 intro j
 match j with
 | 0=>exact cell_of_take e0
 | 1=>exact cell_of_take e1
 | 2=>exact cell_of_take e2
 | 3=>exact cell_of_take e3
 | 4=>exact cell_of_take e4
 | 5=>exact cell_of_take e5
 | 6=>exact cell_of_take e6
 | n+7=>rw [List.getElem?_eq_none (by omega)];rfl
theorem open_two {v:Value}{d:DataW H}{ps:List MemPlace} (hv:∃ cs,v = .agg cs) (h:DataW.Trod enc Tryz.prog W 0 (fun _=>true) true 46 v d ps):∃ s0 s1:Nat,v = .agg #[.int .u8 (s0:Nat),.int .u8 (s1:Nat)]∧s0<256∧s1<256:=by
 obtain ⟨cs,rfl⟩:=hv
 obtain ⟨fuel,hf⟩:=h
 have hf:DataW.trod enc Tryz.prog W 0 (fun _=>true) true fuel 46 cs.toList=some (d,ps):=hf
 obtain ⟨xs,n,rfl,_,hlen,hx,hfl⟩:=DataW.trod_array Tryz.underlying46 hf
 have k46:Tryz.prog.cellsOf 46=2:=by kernel_rfl
 rw [k46]at hlen
 obtain ⟨y0,z0⟩:∃ y,xs[0]? = some y:=⟨_,List.getElem?_eq_getElem (by omega)⟩
 obtain ⟨y1,z1⟩:∃ y,xs[1]? = some y:=⟨_,List.getElem?_eq_getElem (by omega)⟩
 have f0:=(hfl 0 (by decide)).trans z0
 have f1:=(hfl 1 (by decide)).trans z1
 obtain ⟨a0,b0,e0⟩:=open_u8 f0
 obtain ⟨a1,b1,e1⟩:=open_u8 f1
 rw [c5]at e0 e1
 refine ⟨a0,a1,?_,b0,b1⟩
 congr 1
 apply Array.toList_inj.1
 apply List.ext_getElem?
 intro j
 match j with
 | 0=>exact cell_of_take (by simpa using e0)
 | 1=>exact cell_of_take (by simpa using e1)
 | n+2=>rw [List.getElem?_eq_none (by omega)];rfl
theorem open_bytes {base:Nat}{v:Value}{d:DataW H}{ps:List MemPlace} (hv:Value.okWide Tryz.prog W .any base 22 v) (h:DataW.Trod enc Tryz.prog W 0 (fun _=>true) true 22 v d ps):∃ (p:Option Addr) (n c:Nat) (L:List Nat),v = .slice p n c∧n≤c∧ByL W p n L:=by
 obtain ⟨ao,len,cap,rfl⟩:=okWide_slice Tryz.underlying22 hv
 obtain ⟨fuel,hf⟩:=h
 have hf:DataW.trod enc Tryz.prog W 0 (fun _=>true) true fuel 22 [.slice ao len cap]=some (d,ps):=hf
 obtain ⟨p,m,c,L,e,hle,hB⟩:=open_by Tryz.underlying22 hf
 cases e
 exact ⟨_,_,_,L,rfl,hle,hB⟩
end
theorem wn:(Rows.changeReadsRow.laid.all fun x=>x.2.handleName?.isNone)=true:=by kernel_rfl
theorem globs:Tryz.prog.globals.size=6:=by kernel_rfl
theorem tabs_of_laid {W:World} (h:laidMetH Tryz.prog Rows.changeReadsRow.laid W) (hsh:W.ShapedOpen Tryz.prog):TabA W:=by
 rw [MakeChecks.laidMetH_plain _ _ _ wn]at h
 obtain ⟨ps,⟨g0,t0,cs0,f0,p0,q0,hg0,ht0,hv0,hd0,⟨g1,t1,cs1,f1,p1,q1,hg1,ht1,hv1,hd1,⟨g2,t2,cs2,f2,p2,q2,hg2,ht2,hv2,hd2,_⟩,_⟩,_⟩,_⟩:=h
 clear hd0
 obtain rfl:=Option.some.inj ((show Tryz.prog.globalNamed "math/bits.deBruijn64tab" = some 0 by kernel_rfl).symm.trans hg1)
 obtain rfl:=Option.some.inj ((show (Tryz.prog.globals[0]?).map (·.type)=some 289 by kernel_rfl).symm.trans ht1)
 obtain rfl:=Option.some.inj ((show Tryz.prog.globalNamed "internal/strconv.uint64pow10" = some 1 by kernel_rfl).symm.trans hg2)
 obtain rfl:=Option.some.inj ((show (Tryz.prog.globals[1]?).map (·.type)=some 377 by kernel_rfl).symm.trans ht2)
 letI:=AEv.unkU
 let β:AEv.Inj:=fun g=>if g<100 then some (g,0,0) else none
 refine ⟨β,fun _ hg=>if_pos hg,fun p hp=>?_⟩
 simp only [tabs,List.mem_cons,List.mem_nil_iff,or_false]at hp
 rcases hp with rfl | rfl
 ·have h1:=AEv.cells_of_laid (zs:=AEv.MK.tab64.map Int.ofNat) Tryz.underlying289 Tryz.underlying5 c5 hd1 (by kernel_rfl)
  have:=AEv.tab_in (β:=β) (t:=289) (n:=64) hsh (by rw [globs];decide) (by kernel_rfl) hg1 hv1 h1 (by kernel_rfl)
  rwa [List.map_map]at this
 ·have h1:=AEv.cells_of_laid (zs:=AEv.MK.pow10.map Int.ofNat) Tryz.underlying377 Tryz.underlying93 c93 hd2 (by kernel_rfl)
  have:=AEv.tab_in (β:=β) (t:=377) (n:=20) hsh (by rw [globs];decide) (by kernel_rfl) hg2 hv2 h1 (by kernel_rfl)
  rwa [List.map_map]at this
end Go.Proofs.YtmlimgmmpjhifaaGreatDoor
namespace Go.Proofs.YtmlimgmmpjhifaaGreatDoor
open Go.ChangeShapes Go.WideShapes Go.ChangeAt Go.RowKit
theorem okWide_arr {W:World}{base:Nat}{t:TypeId}{v:Value}{m:Nat}{e:TypeId} (ht:Tryz.prog.underlying t=some (.array m e)) (h:Value.okWide Tryz.prog W .any base t v):∃ cs,v = .agg cs:=by
 unfold Value.okWide at h
 rw [ht]at h
 obtain ⟨cs,e,_⟩:=h
 exact ⟨cs,e⟩
theorem lifted (os:Os) (started:os.Started) (H:Type) (enc:TypeId×Value→H) :
  ReturnsInHanded {} Tryz.checked os 4 .any (fun w args=>(Rows.changeReadsSpec.pre enc Tryz.prog Tryz.f4 [] false w args∧laidMetH Tryz.prog Rows.changeReadsRow.laid w)∧sizedMet enc Tryz.prog Tryz.f4 (OpenSpec.ofChange Rows.changeReadsSpec) false w args)
   (Rows.changeReadsSpec.post enc Tryz.prog Tryz.f4 false true false false):=by
 refine AEv.lifted_of_calls (C:=Tryz.checked) (tb:=4) own started (by kernel_rfl) Tryz.func4 cf2 (by kernel_rfl) rfl (by kernel_rfl) Tryz.underlying4 ?_
  (ChangeSpec.witness_shaped (enc:=enc) (C:=Tryz.checked) (os:=os) (X:=fun w _=>laidMetH Tryz.prog Rows.changeReadsRow.laid w) false (World.laidAll Tryz.prog os Rows.changeReadsRow.laid)
   #[.agg #[.int .u8 0,.int .u8 0,.int .u8 0,.int .u8 0,.int .u8 0,.int .u8 0,.slice none 0 0],.agg #[.int .u8 0,.int .u8 0],.slice none 0 0] 8 (World.laidAll_os _ _ _)
   (World.shaped_of_ZipB (wz os) (wh os)) (wo os) (wp os H enc) (ws os H enc)
   (by rw [MakeChecks.laidMetH_plain _ _ _ wn];exact laidMet_laidAll _ (wf os) (wi os))) ?_
 ·intro ds hds
  have hds:ds.length=3:=by rw [hds,Tryz.params4];rfl
  match ds,hds with
  | [_,_,_],_=>rfl
 ·intro W base args ds ps hval0 hA0 hL hsh
  have hval:∀ (j:Nat) t v,Tryz.f4.params[j]? = some t→args[j]? = some v→Value.okWide Tryz.prog W .any base t v:=hval0
  have hA:DataW.TrodAll enc Tryz.prog W 0 (fun _=>true) true Tryz.f4.params.toList args.toList ds ps:=hA0
  rw [Tryz.params4]at hA hval
  obtain ⟨v0,vs0,d0,ds0,p0,q0,hargs,rfl,rfl,h0,r0⟩:=trodAll_cons hA
  obtain ⟨v1,vs1,d1,ds1,p1,q1,rfl,rfl,rfl,h1,r1⟩:=trodAll_cons r0
  obtain ⟨v2,vs2,d2,ds2,p2,q2,rfl,rfl,rfl,h2,r2⟩:=trodAll_cons r1
  obtain ⟨rfl,rfl,rfl⟩:=trodAll_nil r2
  obtain rfl:args = #[v0,v1,v2]:=by cases args;simp_all
  obtain ⟨k0,k1,k2,k3,k4,k5,pa,na,ca,La,rfl,g0,g1,g2,g3,g4,g5,hca,hBa⟩:=open_raw (hval 0 24 v0 rfl rfl) h0
  obtain ⟨s0,s1,rfl,hs0,hs1⟩:=open_two (okWide_arr Tryz.underlying46 (hval 1 46 v1 rfl rfl)) h1
  obtain ⟨pb,nb,cb,Lb,rfl,hcb,hBb⟩:=open_bytes (hval 2 22 v2 rfl rfl) h2
  exact (AEv.MK.law_call (tabs_of_laid hL hsh) hBa hca g0 g1 g2 g3 g4 g5 hs0 hs1 hBb hcb).mono fun _ _ h=>⟨h.2,h.1⟩
end Go.Proofs.YtmlimgmmpjhifaaGreatDoor
