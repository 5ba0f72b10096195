/- The digests of a trail: the row's step. Conditions: the listed package variables hold what the row says. -/
import Derived.Test.YtaffhpgaagnjfaaGreatDoorL2a
import Derived.Test.YtaffhpgaagnjfaaGreatDoorH2x0
import Derived.Test.YtaffhpgaagnjfaaGreatDoorH0x10
import Derived.Test.YtaffhpgaagnjfaaGreatDoorL0a
import Derived.Test.YtaffhpgaagnjfaaGreatDoorH0x11
import Derived.Test.YtaffhpgaagnjfaaGreatDoorH0x1
import Derived.Test.YtaffhpgaagnjfaaGreatDoorCards
import Derived.Stop.Joined
namespace Go.Proofs.YtaffhpgaagnjfaaGreatDoor
open Go.ChangeShapes Go.WideShapes Go.ChangeAt Go.RowKit
open Go.AEv (tabs XO Sl4 Jf)
theorem own:ownKnob Tryz.prog.godebug=none:=by kernel_rfl
theorem zjZ:Tryz.prog.globals.size=8:=by kernel_rfl
set_option maxRecDepth 100000 in
theorem Vm {W:World} (h:laidMetH Tryz.prog Rows.auditHeadsRow.laid W) (hsh:W.ShapedOpen Tryz.prog):XO W:=by
 rw [MakeChecks.laidMetH_plain _ _ _ wn]at h
 obtain ⟨ps,⟨g0,t0,cs0,f0,p0,q0,hg0,ht0,hv0,hd0,⟨g1,t1,cs1,f1,p1,q1,hg1,ht1,hv1,hd1,⟨g2,t2,cs2,f2,p2,q2,hg2,ht2,hv2,hd2,⟨g3,t3,cs3,f3,p3,q3,hg3,ht3,hv3,hd3,⟨g4,t4,cs4,f4,p4,q4,hg4,ht4,hv4,hd4,⟨g5,t5,cs5,f5,p5,q5,hg5,ht5,hv5,hd5,_⟩,_⟩,_⟩,_⟩,_⟩,_⟩,_⟩:=h
 clear hd0 hd3
 obtain rfl:=Option.some.inj ((show Tryz.prog.globalNamed "math/bits.deBruijn64tab" = some 3 by kernel_rfl).symm.trans hg1)
 obtain rfl:=Option.some.inj ((show (Tryz.prog.globals[3]?).map (·.type)=some 451 by kernel_rfl).symm.trans ht1)
 obtain rfl:=Option.some.inj ((show Tryz.prog.globalNamed "internal/strconv.uint64pow10" = some 6 by kernel_rfl).symm.trans hg2)
 obtain rfl:=Option.some.inj ((show (Tryz.prog.globals[6]?).map (·.type)=some 638 by kernel_rfl).symm.trans ht2)
 obtain rfl:=Option.some.inj ((show Tryz.prog.globalNamed "arbac/keccak.rounds" = some 1 by kernel_rfl).symm.trans hg4)
 obtain rfl:=Option.some.inj ((show (Tryz.prog.globals[1]?).map (·.type)=some 401 by kernel_rfl).symm.trans ht4)
 obtain rfl:=Option.some.inj ((show Tryz.prog.globalNamed "arbac/keccak.turns" = some 2 by kernel_rfl).symm.trans hg5)
 obtain rfl:=Option.some.inj ((show (Tryz.prog.globals[2]?).map (·.type)=some 403 by kernel_rfl).symm.trans ht5)
 letI:=AEv.unk0
 let β:AEv.Inj:=fun g=>if g<100 then some (g,0,0) else none
 refine ⟨β,fun _ hg=>if_pos hg,fun p hp=>?_⟩
 simp only [tabs,List.mem_cons,List.mem_nil_iff,or_false]at hp
 rcases hp with rfl | rfl | rfl | rfl
 ·have h1:=AEv.Z4 (zs:=AEv.rounds.map Int.ofNat) Tryz.underlying401 Tryz.underlying106 zwA hd4 (by kernel_rfl)
  have:=AEv.zdJ (β:=β) (t:=401) (n:=24) hsh (by rw [zjZ];decide) (by kernel_rfl) hg4 hv4 h1 (by kernel_rfl)
  rwa [List.map_map]at this
 ·have h1:=AEv.Z4 (zs:=AEv.turns.map Int.ofNat) Tryz.underlying403 Tryz.underlying3 c3 hd5 (by kernel_rfl)
  have:=AEv.zdJ (β:=β) (t:=403) (n:=25) hsh (by rw [zjZ];decide) (by kernel_rfl) hg5 hv5 h1 (by kernel_rfl)
  rwa [List.map_map]at this
 ·have h1:=AEv.Z4 (zs:=AEv.zq4.map Int.ofNat) Tryz.underlying451 Tryz.underlying5 c5 hd1 (by kernel_rfl)
  have:=AEv.zdJ (β:=β) (t:=451) (n:=64) hsh (by rw [zjZ];decide) (by kernel_rfl) hg1 hv1 h1 (by kernel_rfl)
  rwa [List.map_map]at this
 ·have h1:=AEv.Z4 (zs:=AEv.zrb.map Int.ofNat) Tryz.underlying638 Tryz.underlying106 zwA hd2 (by kernel_rfl)
  have:=AEv.zdJ (β:=β) (t:=638) (n:=20) hsh (by rw [zjZ];decide) (by kernel_rfl) hg2 hv2 h1 (by kernel_rfl)
  rwa [List.map_map]at this
set_option maxRecDepth 100000 in
theorem lifted (os:Os) (started:os.Started) (H:Type) (enc:TypeId×Value→H) :
  ReturnsInHanded {} Tryz.checked os 3 .any (fun w args=>(Rows.auditHeadsSpec.pre enc Tryz.prog Tryz.f3 [] false w args∧laidMetH Tryz.prog Rows.auditHeadsRow.laid w)∧sizedMet enc Tryz.prog Tryz.f3 (OpenSpec.ofChange Rows.auditHeadsSpec) false w args)
   (Rows.auditHeadsSpec.post enc Tryz.prog Tryz.f3 false true false false):=by
 refine AEv.UL (C:=Tryz.checked) (tb:=4) own started (by kernel_rfl) Tryz.func3 cf2 (by kernel_rfl) rfl (by kernel_rfl) Tryz.underlying4 ?_
  (ChangeSpec.witness_shaped (enc:=enc) (C:=Tryz.checked) (os:=os) (X:=fun w _=>laidMetH Tryz.prog Rows.auditHeadsRow.laid w) false (World.laidAll Tryz.prog os Rows.auditHeadsRow.laid)
   #[.slice none 0 0,.int .i64 0] 8 (World.laidAll_os _ _ _)
   (World.shaped_of_ZipB (wz os) (wh os)) (wo os) (wp os H enc) (ws os H enc)
   (by rw [MakeChecks.laidMetH_plain _ _ _ wn];exact laidMet_laidAll _ (wf os) (wi os))) ?_
 ·intro ds hds
  have hds:ds.length=2:=by rw [hds,Tryz.params3];rfl
  match ds,hds with
  | [_,_],_=>rfl
 ·intro W base args ds ps hval0 hA0 hL hsh
  have hval:∀ (j:Nat) t v,Tryz.f3.params[j]? = some t→args[j]? = some v→Value.okWide Tryz.prog W .any base t v:=hval0
  have hA:DataW.TrodAll enc Tryz.prog W 0 (fun _=>true) true Tryz.f3.params.toList args.toList ds ps:=hA0
  rw [Tryz.params3]at hA hval
  obtain ⟨v0,vs0,d0,ds0,p0,q0,hargs,rfl,rfl,h0,r0⟩:=trodAll_cons hA
  obtain ⟨v1,vs1,d1,ds1,p1,q1,rfl,rfl,rfl,h1,r1⟩:=trodAll_cons r0
  obtain ⟨rfl,rfl,rfl⟩:=trodAll_nil r1
  obtain rfl:args = #[v0,v1]:=by cases args;simp_all
  have hit:=zhP (hval 0 22 v0 rfl rfl) h0
  obtain ⟨n1,rfl⟩:=okWide_int Tryz.underlying3 (hval 1 3 v1 rfl rfl)
  exact (AEv.zid v0 n1 W (zdK (Vm hL hsh)) (Vm hL hsh) hit).mono fun _ _ h=>⟨h.2,h.1⟩
end Go.Proofs.YtaffhpgaagnjfaaGreatDoor
