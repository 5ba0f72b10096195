/- Changes, their encodings and texts: calls and runs (L11a). Conditions: those of each theorem. -/
import Derived.Test.YtmlimgmmpjhifaaGreatDoorH10x0
import Derived.ProofKit
import Derived.Deep.Slices
import Derived.Lib.ItoaMem
import Derived.Sort.Grow
set_option maxRecDepth 100000
set_option maxHeartbeats 8000000
set_option linter.all false
namespace Go.Proofs.YtmlimgmmpjhifaaGreatDoor
open Go.ChangeShapes Go.WideShapes Go.ChangeAt Go.RowKit
open Go.AEv.MK (ByL ow zW)
theorem c5:Tryz.prog.cellsOf 5=1:=by kernel_rfl
theorem c22:Tryz.prog.cellsOf 22=1:=by kernel_rfl
theorem c93:Tryz.prog.cellsOf 93=1:=by kernel_rfl
theorem own:ownKnob Tryz.prog.godebug=none:=by kernel_rfl
theorem jK {l:List Value}{j:Nat}{v:Value} (h:(l.drop j).take 1=[v]):l[j]? = some v:=by
 have:=congrArg (fun m=>m[0]?) h
 simpa using this
theorem u8_nat {n:Int} (w:(Lit.int .u8 n).wf=true):∃ m:Nat,n=m∧m<256:=by
 have h1:IntKind.u8.min=0:=rfl
 have h2:IntKind.u8.max=255:=rfl
 simp only [Lit.wf,Bool.and_eq_true,decide_eq_true_eq,h1,h2]at w
 exact ⟨n.toNat,by omega,by omega⟩
theorem gO {p:Nat→Nat→Prop}{n:Nat} (h:∀ i,i<n→∃ b,p i b):∃ B:Nat→Nat,∀ i,i<n→p i (B i):=by
 exact ⟨fun i=>if hi:i<n then (h i hi).choose else 0,fun i hi=>by show p i (if hi:i<n then (h i hi).choose else 0);rw [dif_pos hi];exact (h i hi).choose_spec⟩
section
variable {H:Type}{enc:TypeId×Value→H}{W:World}
theorem uc {n:Nat}{cs:List Value}{x:DataW H×List MemPlace}{t:TypeId} (ht:Tryz.prog.underlying t=some (.slice 5)) (h:DataW.trod enc Tryz.prog W 0 (fun _=>true) true n t cs=some x):∃ p m c L,cs=[.slice p m c]∧m≤c∧ByL W p m L:=by
 rcases Go.Deep.open_slice1 ht c5 h with ⟨rfl,_⟩ | ⟨a,len,cap,m,k,V,D,Pl,rfl,_,hle,hmax,hm,_,hx⟩
 ·exact ⟨none,0,0,[],rfl,Nat.le_refl _,fun h=>absurd rfl h,rfl,Nat.zero_le _,fun x hx=>by cases hx⟩
 ·have hm:m=cap:=hm
  subst hm
  have hB:∀ i,i<m→∃ b:Nat,W.cell? (a.add i)=some (.int .u8 (b:Nat))∧b<256:=by
   intro i hi
   obtain ⟨h1,h2⟩:=hx i hi
   obtain ⟨z,e,_,wz⟩:=DataW.trod_int Tryz.underlying5 h2
   obtain ⟨b,rfl,hb⟩:=u8_nat wz
   refine ⟨b,?_,hb⟩
   rw [h1]
   exact congrArg some (List.singleton_inj.1 e)
  obtain ⟨B,hB⟩:=gO hB
  have hget:∀ (i x:Nat),((List.range len).map B)[i]? = some x→i<len∧x=B i:=by
   intro i x hx
   rw [List.getElem?_map]at hx
   obtain ⟨j,hj,rfl⟩:=Option.map_eq_some_iff.1 hx
   have hi:=(List.getElem?_eq_some_iff.1 hj).1
   rw [List.length_range]at hi
   rw [List.getElem?_range hi]at hj
   cases hj
   exact ⟨hi,rfl⟩
  have hmax':m≤9223372036854775807:=hmax
  refine ⟨some a,len,m,(List.range len).map B,rfl,hle,?_,by simp,by omega,?_⟩
  ·intro hne
   have h0:0<len:=by
    rcases Nat.eq_zero_or_pos len with h | h
    ·subst h;exact absurd rfl hne
    ·exact h
   have hspot:a.spot=none:=by
    obtain ⟨h1,_⟩:=hB 0 (by omega)
    have h1:W.cell? a=some (.int .u8 (B 0:Nat)):=by
     have e:a.add 0=a:=by unfold Addr.add;simp
     rwa [e]at h1
    unfold World.cell? at h1
    split at h1
    ·split at h1
     ·cases h1
     ·rename_i hs
      cases ha:a.spot with
      | none=>rfl
      | some z=>rw [ha]at hs;exact absurd rfl hs
    ·cases h1
   obtain ⟨ab,ao,sp⟩:=a
   have hspot:sp=none:=hspot
   subst hspot
   refine ⟨ab,ao,rfl,fun i x hx=>?_⟩
   rw [List.getElem?_map]at hx
   obtain ⟨y,hy,rfl⟩:=Option.map_eq_some_iff.1 hx
   obtain ⟨hi,rfl⟩:=hget i y hy
   have h1:=(hB i (by omega)).1
   rwa [Addr.add_lit]at h1
  ·intro x hx
   obtain ⟨i,hi⟩:=List.getElem?_of_mem hx
   obtain ⟨h1,rfl⟩:=hget i x hi
   exact (hB i (by omega)).2
theorem JK {n:Nat}{cs:List Value}{x:DataW H×List MemPlace} (h:DataW.trod enc Tryz.prog W 0 (fun _=>true) true n 5 (cs.take (Tryz.prog.cellsOf 5))=some x):∃ b:Nat,b<256∧cs.take 1=[.int .u8 (b:Nat)]:=by
 rw [c5]at h
 obtain ⟨z,e,_,wz⟩:=DataW.trod_int Tryz.underlying5 h
 obtain ⟨b,rfl,hb⟩:=u8_nat wz
 exact ⟨b,hb,e⟩
theorem pU {base:Nat}{v:Value}{d:DataW H}{ps:List MemPlace} (hv:Value.okWide Tryz.prog W .any base 24 v) (h:DataW.Trod enc Tryz.prog W 0 (fun _=>true) true 24 v d ps) :
  ∃ (k0 k1 k2 k3 k4 k5:Nat) (p:Option Addr) (n c:Nat) (L:List Nat),v = .agg #[.int .u8 (k0:Nat),.int .u8 (k1:Nat),.int .u8 (k2:Nat),.int .u8 (k3:Nat),.int .u8 (k4:Nat),.int .u8 (k5:Nat),.slice p n c]∧k0<256∧k1<256∧k2<256∧k3<256∧k4<256∧k5<256∧n≤c∧ByL W p n L:=by
 obtain ⟨cs,rfl,hsz⟩:=okWide_struct Tryz.underlying24 hv
 obtain ⟨fuel,hf⟩:=h
 have hf:DataW.trod enc Tryz.prog W 0 (fun _=>true) true fuel 24 cs.toList=some (d,ps):=hf
 obtain ⟨xs,n,rfl,_,hlen,hx,hfl⟩:=DataW.trod_struct Tryz.underlying24 hf
 have k24:Tryz.prog.cellsOf 24=7:=by kernel_rfl
 rw [k24]at hlen
 have hx7:xs.length=7:=hx
 have at_:∀ i,i<7→∃ y,xs[i]? = some y:=fun i hi=>⟨_,List.getElem?_eq_getElem (by omega)⟩
 obtain ⟨y0,z0⟩:=at_ 0 (by decide)
 obtain ⟨y1,z1⟩:=at_ 1 (by decide)
 obtain ⟨y2,z2⟩:=at_ 2 (by decide)
 obtain ⟨y3,z3⟩:=at_ 3 (by decide)
 obtain ⟨y4,z4⟩:=at_ 4 (by decide)
 obtain ⟨y5,z5⟩:=at_ 5 (by decide)
 obtain ⟨y6,z6⟩:=at_ 6 (by decide)
 obtain ⟨a0,b0,e0⟩:=JK ((hfl 0 _ rfl).trans z0)
 obtain ⟨a1,b1,e1⟩:=JK ((hfl 1 _ rfl).trans z1)
 obtain ⟨a2,b2,e2⟩:=JK ((hfl 2 _ rfl).trans z2)
 obtain ⟨a3,b3,e3⟩:=JK ((hfl 3 _ rfl).trans z3)
 obtain ⟨a4,b4,e4⟩:=JK ((hfl 4 _ rfl).trans z4)
 obtain ⟨a5,b5,e5⟩:=JK ((hfl 5 _ rfl).trans z5)
 obtain ⟨p,m,c,L,e6,hle,hB⟩:=uc Tryz.underlying22 ((hfl 6 _ rfl).trans z6)
 have e6:(cs.toList.drop 6).take 1=[.slice p m c]:=by rw [← c22];exact e6
 refine ⟨a0,a1,a2,a3,a4,a5,p,m,c,L,?_,b0,b1,b2,b3,b4,b5,hle,hB⟩
 congr 1
 apply Array.toList_inj.1
 apply List.ext_getElem?
 intro j
 match j with
 | 0=>exact jK e0
 | 1=>exact jK e1
 | 2=>exact jK e2
 | 3=>exact jK e3
 | 4=>exact jK e4
 | 5=>exact jK e5
 | 6=>exact jK e6
 | n+7=>rw [List.getElem?_eq_none (by omega)];rfl
end
theorem wn:(Rows.changeReadsRow.laid.all fun x=>x.2.handleName?.isNone)=true:=by kernel_rfl
theorem wu:Tryz.prog.globals.size=6:=by kernel_rfl
theorem aG {W:World} (h:laidMetH Tryz.prog Rows.changeReadsRow.laid W) (hsh:W.ShapedOpen Tryz.prog):ow W:=by
 rw [MakeChecks.laidMetH_plain _ _ _ wn]at h
 obtain ⟨ps,⟨g0,t0,cs0,f0,p0,q0,hg0,ht0,hv0,hd0,⟨g1,t1,cs1,f1,p1,q1,hg1,ht1,hv1,hd1,⟨g2,t2,cs2,f2,p2,q2,hg2,ht2,hv2,hd2,_⟩,_⟩,_⟩,_⟩:=h
 clear hd0
 obtain rfl:=Option.some.inj ((show Tryz.prog.globalNamed "math/bits.deBruijn64tab" = some 0 by kernel_rfl).symm.trans hg1)
 obtain rfl:=Option.some.inj ((show (Tryz.prog.globals[0]?).map (·.type)=some 289 by kernel_rfl).symm.trans ht1)
 obtain rfl:=Option.some.inj ((show Tryz.prog.globalNamed "internal/strconv.uint64pow10" = some 1 by kernel_rfl).symm.trans hg2)
 obtain rfl:=Option.some.inj ((show (Tryz.prog.globals[1]?).map (·.type)=some 377 by kernel_rfl).symm.trans ht2)
 letI:=AEv.unkU
 let β:AEv.Inj:=fun g=>if g<100 then some (g,0,0) else none
 refine ⟨β,fun _ hg=>if_pos hg,fun p hp=>?_⟩
 simp only [zW,List.mem_cons,List.mem_nil_iff,or_false]at hp
 rcases hp with rfl | rfl
 ·have h1:=AEv.Qe (zs:=AEv.MK.vF.map Int.ofNat) Tryz.underlying289 Tryz.underlying5 c5 hd1 (by kernel_rfl)
  have:=AEv.o7 (β:=β) (t:=289) (n:=64) hsh (by rw [wu];decide) (by kernel_rfl) hg1 hv1 h1 (by kernel_rfl)
  rwa [List.map_map]at this
 ·have h1:=AEv.Qe (zs:=AEv.MK.lj.map Int.ofNat) Tryz.underlying377 Tryz.underlying93 c93 hd2 (by kernel_rfl)
  have:=AEv.o7 (β:=β) (t:=377) (n:=20) hsh (by rw [wu];decide) (by kernel_rfl) hg2 hv2 h1 (by kernel_rfl)
  rwa [List.map_map]at this
end Go.Proofs.YtmlimgmmpjhifaaGreatDoor
namespace Go.AEv
section
open Go Go.Proofs TR
namespace MK
open Go.AEv.GT (zO qq)
open RD (qe)
structure Zr (x:Ch):Prop where
 b:useB x.k.toNat 0=false→x.b=0
 u:useB x.k.toNat 1=false→x.u=0
 r:useB x.k.toNat 2=false→x.r=0
 o:useB x.k.toNat 3=false→x.o=0
 s:useB x.k.toNat 4=false→x.s=0
 d:useB x.k.toNat 5=false→x.d=0
 nm:useB x.k.toNat 6=false→x.nm=⟨#[]⟩
 tx:useB x.k.toNat 7=false→x.tx=⟨#[]⟩
 ac:useB x.k.toNat 8=false→x.ac=⟨#[]⟩
 pa:useB x.k.toNat 8=false→x.pa=⟨#[]⟩
 dp:useB x.k.toNat 8=false→x.dp=false
structure ZU (e0 e1 e2 e3 e4 e5 e6 e7 e8:Bool) (k:Int) (x:Ch):Prop where
 k:x.k=k
 b:e0=false→x.b=0
 u:e1=false→x.u=0
 r:e2=false→x.r=0
 o:e3=false→x.o=0
 s:e4=false→x.s=0
 d:e5=false→x.d=0
 nm:e6=false→x.nm=⟨#[]⟩
 tx:e7=false→x.tx=⟨#[]⟩
 ac:e8=false→x.ac=⟨#[]⟩
 pa:e8=false→x.pa=⟨#[]⟩
 dp:e8=false→x.dp=false
def ChO (c:Ch) (w:World) (e:Ending) (w2:World):Prop:=∃ x:Ch,e = .returned (.agg x.cells.toArray)∧x.Ok∧Zr x∧(x.k=c.k∧(useB c.k.toNat 8=true→x.ac=c.ac∧x.pa=c.pa))∧Grown w w2
def Pm (x:Ch):Prop:=sb x.ac∈jg∧sb x.pa∈qx
def Pv (x:Ch):Prop:=x.k=6∨x.k=7→sb x.ac∈jg∧sb x.pa∈qx
theorem Cy {x c:Ch} (h:x.k=c.k∧(useB c.k.toNat 8=true→x.ac=c.ac∧x.pa=c.pa)) (hp:Pm c):Pv x:=fun q=>by
 have hu:useB c.k.toNat 8=true:=by
  rw [← h.1]
  rcases q with q | q<;>rw [q]<;>rfl
 obtain ⟨h1,h2⟩:=h.2 hu
 rw [h1,h2]
 exact hp
def ChN (w:World) (e:Ending) (w2:World):Prop:=∃ x:Ch,e = .returned (.agg x.cells.toArray)∧x.Ok∧Zr x∧Pv x∧Grown w w2
theorem oA (e0 e1 e2 e3 e4 e5 e6 e7 e8:Bool) (k:Int):ZU e0 e1 e2 e3 e4 e5 e6 e7 e8 k ⟨k,0,0,0,0,0,0,⟨#[]⟩,⟨#[]⟩,⟨#[]⟩,⟨#[]⟩,false⟩:=⟨rfl,fun _=>rfl,fun _=>rfl,fun _=>rfl,fun _=>rfl,fun _=>rfl,fun _=>rfl,fun _=>rfl,fun _=>rfl,fun _=>rfl,fun _=>rfl,fun _=>rfl⟩
theorem Cl {e0 e1 e2 e3 e4 e5 e6 e7 e8:Bool}{k:Int}{x:Ch} (he:ZH k.toNat e0 e1 e2 e3 e4 e5 e6 e7 e8) (h:ZU e0 e1 e2 e3 e4 e5 e6 e7 e8 k x):Zr x:=by
 obtain ⟨h0,h1,h2,h3,h4,h5,h6,h7,h8⟩:=he
 obtain rfl:=h.k
 exact ⟨fun q=>h.b (h0.trans q),fun q=>h.u (h1.trans q),fun q=>h.r (h2.trans q),fun q=>h.o (h3.trans q),fun q=>h.s (h4.trans q),fun q=>h.d (h5.trans q),fun q=>h.nm (h6.trans q),fun q=>h.tx (h7.trans q),fun q=>h.ac (h8.trans q),fun q=>h.pa (h8.trans q),fun q=>h.dp (h8.trans q)⟩
theorem ZU.tU {e1 e2 e3 e4 e5 e6 e7 e8:Bool}{k:Int}{x:Ch}{v:Int} (h:ZU true e1 e2 e3 e4 e5 e6 e7 e8 k x):ZU true e1 e2 e3 e4 e5 e6 e7 e8 k { x with b:=v }:={ h with b:=fun q=>by cases q }
theorem ZU.pz {e0 e2 e3 e4 e5 e6 e7 e8:Bool}{k:Int}{x:Ch}{v:Int} (h:ZU e0 true e2 e3 e4 e5 e6 e7 e8 k x):ZU e0 true e2 e3 e4 e5 e6 e7 e8 k { x with u:=v }:={ h with u:=fun q=>by cases q }
theorem ZU.fA {e0 e1 e3 e4 e5 e6 e7 e8:Bool}{k:Int}{x:Ch}{v:Int} (h:ZU e0 e1 true e3 e4 e5 e6 e7 e8 k x):ZU e0 e1 true e3 e4 e5 e6 e7 e8 k { x with r:=v }:={ h with r:=fun q=>by cases q }
theorem ZU.km {e0 e1 e2 e4 e5 e6 e7 e8:Bool}{k:Int}{x:Ch}{v:Int} (h:ZU e0 e1 e2 true e4 e5 e6 e7 e8 k x):ZU e0 e1 e2 true e4 e5 e6 e7 e8 k { x with o:=v }:={ h with o:=fun q=>by cases q }
theorem ZU.tT {e0 e1 e2 e3 e5 e6 e7 e8:Bool}{k:Int}{x:Ch}{v:Int} (h:ZU e0 e1 e2 e3 true e5 e6 e7 e8 k x):ZU e0 e1 e2 e3 true e5 e6 e7 e8 k { x with s:=v }:={ h with s:=fun q=>by cases q }
theorem ZU.tS {e0 e1 e2 e3 e4 e6 e7 e8:Bool}{k:Int}{x:Ch}{v:Int} (h:ZU e0 e1 e2 e3 e4 true e6 e7 e8 k x):ZU e0 e1 e2 e3 e4 true e6 e7 e8 k { x with d:=v }:={ h with d:=fun q=>by cases q }
theorem ZU.fy {e0 e1 e2 e3 e4 e5 e7 e8:Bool}{k:Int}{x:Ch}{v:ByteArray} (h:ZU e0 e1 e2 e3 e4 e5 true e7 e8 k x):ZU e0 e1 e2 e3 e4 e5 true e7 e8 k { x with nm:=v }:={ h with nm:=fun q=>by cases q }
theorem ZU.cW {e0 e1 e2 e3 e4 e5 e6 e8:Bool}{k:Int}{x:Ch}{v:ByteArray} (h:ZU e0 e1 e2 e3 e4 e5 e6 true e8 k x):ZU e0 e1 e2 e3 e4 e5 e6 true e8 k { x with tx:=v }:={ h with tx:=fun q=>by cases q }
theorem ZU.mU {e0 e1 e2 e3 e4 e5 e6 e7:Bool}{k:Int}{x:Ch}{a p:ByteArray}{d:Bool} (h:ZU e0 e1 e2 e3 e4 e5 e6 e7 true k x):ZU e0 e1 e2 e3 e4 e5 e6 e7 true k { x with ac:=a,pa:=p,dp:=d }:={ h with ac:=fun q=>(by cases q),pa:=fun q=>(by cases q),dp:=fun q=>(by cases q) }
theorem xG {w:World}{c:Ch} (hc:c.Ok):Calls Tryz.prog 28 #[.agg c.cells.toArray] w (ChO c w):=by
 have HC:=Lib.hid hc
 have hk0:=hc.k0
 have hk1:=hc.k1
 clear hc
 go_enter Tryz.func28,Tryz.ntmps28
 go_upto_if 12 with (first
  | (go_at_call 36;(with_reducible refine (uses36_e hk0 hk1).mono ?_);rintro e w2 ⟨e0,e1,e2,e3,e4,e5,e6,e7,e8,rfl,g2,he⟩;have HE:=Lib.hid he;clear he;have G2:=Lib.hid (((za _ _).trans' (za _ _)).trans' g2);have A2:=Lib.hid (zk ((za _ (.cells #[.int .i64 0,.int .i64 0,.int .i64 0,.int .i64 0,.int .i64 0,.int .i64 0,.int .i64 0,.string ⟨#[]⟩,.string ⟨#[]⟩,.string ⟨#[]⟩,.string ⟨#[]⟩,.bool false] 29)).trans' g2) (zn w (z:=#[.int .i64 c.k,.int .i64 c.b,.int .i64 c.u,.int .i64 c.r,.int .i64 c.o,.int .i64 c.s,.int .i64 c.d,.string c.nm,.string c.tx,.string c.ac,.string c.pa,.bool c.dp]) (t:=29)));have ZZ:=Lib.hid (zk g2 (jS (w:=w.alloc (.cells #[.int .i64 c.k,.int .i64 c.b,.int .i64 c.u,.int .i64 c.r,.int .i64 c.o,.int .i64 c.s,.int .i64 c.d,.string c.nm,.string c.tx,.string c.ac,.string c.pa,.bool c.dp] 29)) (z:=#[.int .i64 0,.int .i64 0,.int .i64 0,.int .i64 0,.int .i64 0,.int .i64 0,.int .i64 0,.string ⟨#[]⟩,.string ⟨#[]⟩,.string ⟨#[]⟩,.string ⟨#[]⟩,.bool false]) (t:=29) (b:=w.heap.size+1) (by rw [zQ])));obtain ⟨c0,c1,c2,c3,c4,c5,c6,c7,c8,c9,c10,c11⟩:=qc A2.out;have c0a:=fun ob=>RD.ze c0 (za w2 ob);clear g2))
 have S0':=dn (e0:=e0) (e1:=e1) (e2:=e2) (e3:=e3) (e4:=e4) (e5:=e5) (e6:=e6) (e7:=e7) (e8:=e8) A2.out ZZ.out HC.out G2.out
 obtain ⟨WA,hWA⟩:∃ WA,WA=((w2.alloc (.cells #[.bool e0,.bool e1,.bool e2,.bool e3,.bool e4,.bool e5,.bool e6,.bool e7,.bool e8] 85)).alloc (.cells #[.int .i64 c.k,.int .i64 0,.int .i64 0,.int .i64 0,.int .i64 0,.int .i64 0,.int .i64 0,.string ⟨#[]⟩,.string ⟨#[]⟩,.string ⟨#[]⟩,.string ⟨#[]⟩,.bool false] 29)):=⟨_,rfl⟩
 rw [← hWA]at S0'
 rw [← hWA]
 have S0:=Lib.hid S0'
 have Z0:=Lib.hid (oA e0 e1 e2 e3 e4 e5 e6 e7 e8 c.k)
 clear S0' hWA c0a c0 c1 c2 c3 c4 c5 c6 c7 c8 c9 c10 c11
 go_cut [] from 11 to 56 (fun wx=>∃ x:Ch,OSt w wx w2.heap.size (w2.heap.size+1) c x e0 e1 e2 e3 e4 e5 e6 e7 e8∧ZU e0 e1 e2 e3 e4 e5 e6 e7 e8 c.k x)
 case first=>
  have ca0:=(zc (k:=0) S0.out.a rfl).1
  have ca1:=(zc (k:=1) S0.out.a rfl).1
  obtain ⟨cx0,fx0⟩:=zc (k:=0) S0.out.xr rfl
  obtain ⟨cx1,fx1⟩:=zc (k:=1) S0.out.xr rfl
  cases e0 with
  | true=>
   go_wp2_with fail
   go_meet
   case rel=>exact ⟨_,S0.out.tU HC.out,Z0.out.tU⟩
  | false=>
   go_wp2_with fail
   go_meet
   case rel=>exact ⟨_,S0.out,Z0.out⟩
 case rest=>
  obtain ⟨x1,hst,hzu⟩:=hcut
  have Z1:=Lib.hid hzu
  clear hzu
  have S1:=Lib.hid hst
  clear hst
  have cf0:=(zc (k:=0) S1.out.f rfl).1
  have cf:=(zc (k:=1) S1.out.f rfl).1
  go_upto_if 17 with fail
  go_cut [] from 11 to 56 (fun wx=>∃ x:Ch,OSt w wx w2.heap.size (w2.heap.size+1) c x e0 e1 e2 e3 e4 e5 e6 e7 e8∧ZU e0 e1 e2 e3 e4 e5 e6 e7 e8 c.k x)
  case first=>
   have ca0:=(zc (k:=0) S1.out.a rfl).1
   have ca2:=(zc (k:=2) S1.out.a rfl).1
   obtain ⟨cx0,fx0⟩:=zc (k:=0) S1.out.xr rfl
   obtain ⟨cx2,fx2⟩:=zc (k:=2) S1.out.xr rfl
   cases e1 with
   | true=>
    go_wp2_with fail
    go_meet
    case rel=>exact ⟨_,S1.out.pz HC.out,Z1.out.pz⟩
   | false=>
    go_wp2_with fail
    go_meet
    case rel=>exact ⟨_,S1.out,Z1.out⟩
  case rest=>
   obtain ⟨x2,hst,hzu⟩:=hcut
   have Z2:=Lib.hid hzu
   clear hzu
   have S2:=Lib.hid hst
   clear hst
   have cf0:=(zc (k:=0) S2.out.f rfl).1
   have cf:=(zc (k:=2) S2.out.f rfl).1
   go_upto_if 22 with fail
   go_cut [] from 11 to 56 (fun wx=>∃ x:Ch,OSt w wx w2.heap.size (w2.heap.size+1) c x e0 e1 e2 e3 e4 e5 e6 e7 e8∧ZU e0 e1 e2 e3 e4 e5 e6 e7 e8 c.k x)
   case first=>
    have ca0:=(zc (k:=0) S2.out.a rfl).1
    have ca3:=(zc (k:=3) S2.out.a rfl).1
    obtain ⟨cx0,fx0⟩:=zc (k:=0) S2.out.xr rfl
    obtain ⟨cx3,fx3⟩:=zc (k:=3) S2.out.xr rfl
    cases e2 with
    | true=>
     go_wp2_with fail
     go_meet
     case rel=>exact ⟨_,S2.out.fA HC.out,Z2.out.fA⟩
    | false=>
     go_wp2_with fail
     go_meet
     case rel=>exact ⟨_,S2.out,Z2.out⟩
   case rest=>
    obtain ⟨x3,hst,hzu⟩:=hcut
    have Z3:=Lib.hid hzu
    clear hzu
    have S3:=Lib.hid hst
    clear hst
    have cf0:=(zc (k:=0) S3.out.f rfl).1
    have cf:=(zc (k:=3) S3.out.f rfl).1
    go_upto_if 27 with fail
    go_cut [] from 11 to 56 (fun wx=>∃ x:Ch,OSt w wx w2.heap.size (w2.heap.size+1) c x e0 e1 e2 e3 e4 e5 e6 e7 e8∧ZU e0 e1 e2 e3 e4 e5 e6 e7 e8 c.k x)
    case first=>
     have ca0:=(zc (k:=0) S3.out.a rfl).1
     have ca4:=(zc (k:=4) S3.out.a rfl).1
     obtain ⟨cx0,fx0⟩:=zc (k:=0) S3.out.xr rfl
     obtain ⟨cx4,fx4⟩:=zc (k:=4) S3.out.xr rfl
     cases e3 with
     | true=>
      go_wp2_with fail
      go_meet
      case rel=>exact ⟨_,S3.out.km HC.out,Z3.out.km⟩
     | false=>
      go_wp2_with fail
      go_meet
      case rel=>exact ⟨_,S3.out,Z3.out⟩
    case rest=>
     obtain ⟨x4,hst,hzu⟩:=hcut
     have Z4:=Lib.hid hzu
     clear hzu
     have S4:=Lib.hid hst
     clear hst
     have cf0:=(zc (k:=0) S4.out.f rfl).1
     have cf:=(zc (k:=4) S4.out.f rfl).1
     go_upto_if 32 with fail
     go_cut [] from 11 to 56 (fun wx=>∃ x:Ch,OSt w wx w2.heap.size (w2.heap.size+1) c x e0 e1 e2 e3 e4 e5 e6 e7 e8∧ZU e0 e1 e2 e3 e4 e5 e6 e7 e8 c.k x)
     case first=>
      have ca0:=(zc (k:=0) S4.out.a rfl).1
      have ca5:=(zc (k:=5) S4.out.a rfl).1
      obtain ⟨cx0,fx0⟩:=zc (k:=0) S4.out.xr rfl
      obtain ⟨cx5,fx5⟩:=zc (k:=5) S4.out.xr rfl
      cases e4 with
      | true=>
       go_wp2_with fail
       go_meet
       case rel=>exact ⟨_,S4.out.tT HC.out,Z4.out.tT⟩
      | false=>
       go_wp2_with fail
       go_meet
       case rel=>exact ⟨_,S4.out,Z4.out⟩
     case rest=>
      obtain ⟨x5,hst,hzu⟩:=hcut
      have Z5:=Lib.hid hzu
      clear hzu
      have S5:=Lib.hid hst
      clear hst
      have cf0:=(zc (k:=0) S5.out.f rfl).1
      have cf:=(zc (k:=5) S5.out.f rfl).1
      go_upto_if 37 with fail
      go_cut [] from 11 to 56 (fun wx=>∃ x:Ch,OSt w wx w2.heap.size (w2.heap.size+1) c x e0 e1 e2 e3 e4 e5 e6 e7 e8∧ZU e0 e1 e2 e3 e4 e5 e6 e7 e8 c.k x)
      case first=>
       have ca0:=(zc (k:=0) S5.out.a rfl).1
       have ca6:=(zc (k:=6) S5.out.a rfl).1
       obtain ⟨cx0,fx0⟩:=zc (k:=0) S5.out.xr rfl
       obtain ⟨cx6,fx6⟩:=zc (k:=6) S5.out.xr rfl
       cases e5 with
       | true=>
        go_wp2_with fail
        go_meet
        case rel=>exact ⟨_,S5.out.tS HC.out,Z5.out.tS⟩
       | false=>
        go_wp2_with fail
        go_meet
        case rel=>exact ⟨_,S5.out,Z5.out⟩
      case rest=>
       obtain ⟨x6,hst,hzu⟩:=hcut
       have Z6:=Lib.hid hzu
       clear hzu
       have S6:=Lib.hid hst
       clear hst
       have cf0:=(zc (k:=0) S6.out.f rfl).1
       have cf:=(zc (k:=6) S6.out.f rfl).1
       go_upto_if 42 with fail
       go_cut [] from 11 to 56 (fun wx=>∃ x:Ch,OSt w wx w2.heap.size (w2.heap.size+1) c x e0 e1 e2 e3 e4 e5 e6 e7 e8∧ZU e0 e1 e2 e3 e4 e5 e6 e7 e8 c.k x)
       case first=>
        have ca0:=(zc (k:=0) S6.out.a rfl).1
        have ca7:=(zc (k:=7) S6.out.a rfl).1
        obtain ⟨cx0,fx0⟩:=zc (k:=0) S6.out.xr rfl
        obtain ⟨cx7,fx7⟩:=zc (k:=7) S6.out.xr rfl
        cases e6 with
        | true=>
         go_wp2_with fail
         go_meet
         case rel=>exact ⟨_,S6.out.fy HC.out,Z6.out.fy⟩
        | false=>
         go_wp2_with fail
         go_meet
         case rel=>exact ⟨_,S6.out,Z6.out⟩
       case rest=>
        obtain ⟨x7,hst,hzu⟩:=hcut
        have Z7:=Lib.hid hzu
        clear hzu
        have S7:=Lib.hid hst
        clear hst
        have cf0:=(zc (k:=0) S7.out.f rfl).1
        have cf:=(zc (k:=7) S7.out.f rfl).1
        go_upto_if 47 with fail
        go_cut [] from 11 to 56 (fun wx=>∃ x:Ch,OSt w wx w2.heap.size (w2.heap.size+1) c x e0 e1 e2 e3 e4 e5 e6 e7 e8∧ZU e0 e1 e2 e3 e4 e5 e6 e7 e8 c.k x)
        case first=>
         have ca0:=(zc (k:=0) S7.out.a rfl).1
         have ca8:=(zc (k:=8) S7.out.a rfl).1
         obtain ⟨cx0,fx0⟩:=zc (k:=0) S7.out.xr rfl
         obtain ⟨cx8,fx8⟩:=zc (k:=8) S7.out.xr rfl
         cases e7 with
         | true=>
          go_wp2_with fail
          go_meet
          case rel=>exact ⟨_,S7.out.cW HC.out,Z7.out.cW⟩
         | false=>
          go_wp2_with fail
          go_meet
          case rel=>exact ⟨_,S7.out,Z7.out⟩
        case rest=>
         obtain ⟨x8,hst,hzu⟩:=hcut
         have Z8:=Lib.hid hzu
         clear hzu
         have S8:=Lib.hid hst
         clear hst
         have cf0:=(zc (k:=0) S8.out.f rfl).1
         have cf:=(zc (k:=8) S8.out.f rfl).1
         go_upto_if 52 with fail
         go_cut [] from 11 to 56 (fun wx=>∃ x:Ch,OSt w wx w2.heap.size (w2.heap.size+1) c x e0 e1 e2 e3 e4 e5 e6 e7 e8∧ZU e0 e1 e2 e3 e4 e5 e6 e7 e8 c.k x∧(e8=true→x.ac=c.ac∧x.pa=c.pa))
         case first=>
          have ca0:=(zc (k:=0) S8.out.a rfl).1
          have ca9:=(zc (k:=9) S8.out.a rfl).1
          have ca10:=(zc (k:=10) S8.out.a rfl).1
          have ca11:=(zc (k:=11) S8.out.a rfl).1
          obtain ⟨cx0,fx0⟩:=zc (k:=0) S8.out.xr rfl
          obtain ⟨cx9,fx9⟩:=zc (k:=9) S8.out.xr rfl
          obtain ⟨cx10,fx10⟩:=zc (k:=10) S8.out.xr rfl
          obtain ⟨cx11,fx11⟩:=zc (k:=11) S8.out.xr rfl
          cases e8 with
          | true=>
           go_wp2_with fail
           go_meet
           case rel=>exact ⟨_,S8.out.mU HC.out,Z8.out.mU,fun _=>⟨rfl,rfl⟩⟩
          | false=>
           go_wp2_with fail
           go_meet
           case rel=>exact ⟨_,S8.out,Z8.out,fun h=>by cases h⟩
         case rest=>
          obtain ⟨x9,hst,hzu,hpm⟩:=hcut
          have PM:=Lib.hid hpm
          clear hpm
          have Z9:=Lib.hid hzu
          clear hzu
          have S9:=Lib.hid hst
          clear hst
          obtain ⟨y0,y1,y2,y3,y4,y5,y6,y7,y8,y9,y10,y11⟩:=qc S9.out.xr
          go_wp2_with (first
           | (refine kO _ _ JT S9.out.z rfl rfl (cs:=Ch.cells x9) (pW _) rfl rfl rfl rfl ?_;intro w9 k1 k2;have R9:=Lib.hid k1;have O9:=Lib.hid k2;clear k1 k2))
          refine bodyPost_ret (zI (p:=2) (ty:=29) rfl _ _ (w.heap.size+1) _ _ rfl (zS R9.out) under29c rfl JT) rfl ?_
          exact ⟨x9,rfl,S9.out.ok,Cl HE.out Z9.out,⟨Z9.out.k,fun q=>PM.out (HE.out.2.2.2.2.2.2.2.2.trans q)⟩,ji S9.out.g O9.out (by omega)⟩
end MK
end
section
open Go Go.Proofs TR
namespace MK
open Go.AEv.GT (zO qq)
theorem vA:∀ s∈ct,sb s∈jg:=by decide +kernel
theorem pP:∀ s∈Vi,sb s∈qx:=by decide +kernel
def DU (m:Nat) (l:List (List Nat)) (w:World) (e:Ending) (w2:World):Prop:=∃ s:ByteArray,e = .returned (.string s)∧s.size≤m∧sb s∈l∧Grown w w2
def DW (w:World) (e:Ending) (w2:World):Prop:=∃ (a p:ByteArray) (b:Bool),e = .returned (.agg #[.string a,.string p,.bool b])∧a.size≤13∧p.size≤13∧(sb a∈jg∧sb p∈qx)∧Grown w w2
theorem DN {w:World}{y:Int} (h0:0≤y) (h3:y<3):Calls Tryz.prog 68 #[.int .u8 y] w (DU 13 jg w):=by
 obtain ⟨x,rfl⟩:∃ x:Nat,y=x:=⟨y.toNat,by omega⟩
 obtain ⟨s,hs,hc⟩:=gh (w:=w) (l:=ct) (t:=9) (k:=x) (RD.zL _) (by show x<3;omega)
 have hz:=eQ s hs
 have hT:(x:Int) % 3=x:=by omega
 have h3':(x:Int)<3:=h3
 unfold ct at hc
 dsimp only [List.map]at hc
 go_enter Tryz.func68,Tryz.ntmps68
 go_wp2
 go_ret
 exact ⟨s,rfl,hz,vA s hs,za _ _⟩
theorem xA {w:World}{x:Nat} (hx:x<256):Calls Tryz.prog 69 #[.int .u8 x] w (DU 13 qx w):=by
 obtain ⟨s,hs,hc⟩:=gh (w:=w) (l:=Vi) (t:=9) (k:=x % 8) (RD.zL _) (Nat.mod_lt _ (by decide))
 have hz:=aZ s hs
 have h1:(0:Int)≤(x:Int) % 8:=by omega
 have h2:(x:Int) % 8<8:=by omega
 have hT:((x:Int) % 8).toNat=x % 8:=by omega
 unfold Vi at hc
 dsimp only [List.map]at hc
 go_enter Tryz.func69,Tryz.ntmps69
 go_wp2
 go_ret
 exact ⟨s,rfl,hz,pP s hs,za _ _⟩
theorem xz {w:World}{x:Nat} (hx:x<256):Calls Tryz.prog 23 #[.int .u8 x] w (DW w):=by
 go_enter Tryz.func23,Tryz.ntmps23
 go_wp2_with (first
  | (go_at_call 68;(with_reducible refine (DN (by omega) (by omega)).mono ?_);rintro e w2 ⟨s1,rfl,z1,i1,g2⟩;have G2:=Lib.hid ((za w _).trans' g2);have R2:=Lib.hid (zk g2 (zn w (z:=#[.string ⟨#[]⟩,.string ⟨#[]⟩,.bool false]) (t:=27)));clear g2)
  | (go_at_call 69;(with_reducible refine (xA hx).mono ?_);rintro e w3 ⟨s2,rfl,z2,i2,g3⟩;have G3:=Lib.hid (G2.out.trans' g3);have R3:=Lib.hid (zk g3 R2.out);clear g3;obtain ⟨c0,f0⟩:=zc (k:=0) R3.out rfl;obtain ⟨c1,f1⟩:=zc (k:=1) R3.out rfl;obtain ⟨c2,f2⟩:=zc (k:=2) R3.out rfl))
 refine bodyPost_ret (zI (p:=2) (ty:=27) rfl _ _ w.heap.size _ _ rfl (zS (py R3.out)) under27 rfl Bf) rfl ?_
 exact ⟨s1,s2,_,rfl,z1,z2,⟨i1,i2⟩,qB (qB (qB G3.out (Nat.le_refl _)) (Nat.le_refl _)) (Nat.le_refl _)⟩
end MK
end
section
open Go Go.Proofs TR
namespace MK
def Qh (k:Nat) (b u r o s d nm ln pt:ByteArray):ByteArray:=
 match k with
 | 1=>(⟨#[97,100,100,32,117,115,101,114,32]⟩:ByteArray)++nm
 | 2=>(⟨#[97,100,100,32,114,111,108,101,32]⟩:ByteArray)++nm
 | 3=>(⟨#[97,100,100,32,97,100,109,105,110,32]⟩:ByteArray)++nm
 | 4=>(⟨#[108,105,110,107,32]⟩:ByteArray)++r++(⟨#[32,111,118,101,114,32]⟩:ByteArray)++o
 | 5=>(⟨#[117,110,108,105,110,107,32]⟩:ByteArray)++r++(⟨#[32,102,114,111,109,32]⟩:ByteArray)++o
 | 6=>(⟨#[103,114,97,110,116,32]⟩:ByteArray)++r++(⟨#[32]⟩:ByteArray)++pt
 | 7=>(⟨#[119,105,116,104,100,114,97,119,32]⟩:ByteArray)++r++(⟨#[32]⟩:ByteArray)++pt
 | 8=>(⟨#[97,112,112,111,105,110,116,32]⟩:ByteArray)++u++(⟨#[32,116,111,32]⟩:ByteArray)++r++(⟨#[32,117,110,116,105,108,32]⟩:ByteArray)++d
 | 9=>(⟨#[100,105,115,109,105,115,115,32]⟩:ByteArray)++u++(⟨#[32,102,114,111,109,32]⟩:ByteArray)++r
 | 10=>(⟨#[115,101,116,32,114,117,108,101,115,44,32]⟩:ByteArray)++ln++(⟨#[32,98,121,116,101,115]⟩:ByteArray)
 | 11=>(⟨#[115,101,116,32,99,111,110,115,116,114,97,105,110,116,115,44,32]⟩:ByteArray)++ln++(⟨#[32,98,121,116,101,115]⟩:ByteArray)
 | 12=>(⟨#[97,115,115,105,103,110,32]⟩:ByteArray)++r++(⟨#[32,116,111,32]⟩:ByteArray)++u++(⟨#[32,98,121,32]⟩:ByteArray)++b++(⟨#[32,117,110,116,105,108,32]⟩:ByteArray)++d
 | 13=>(⟨#[114,101,118,111,107,101,32]⟩:ByteArray)++r++(⟨#[32,102,114,111,109,32]⟩:ByteArray)++u++(⟨#[32,98,121,32]⟩:ByteArray)++b
 | 14=>(⟨#[111,112,101,110,32,102,111,114,32]⟩:ByteArray)++u
 | 15=>(⟨#[99,108,111,115,101,32]⟩:ByteArray)++s
 | 16=>(⟨#[97,99,116,105,118,97,116,101,32]⟩:ByteArray)++r++(⟨#[32,105,110,32]⟩:ByteArray)++s
 | 17=>(⟨#[100,101,97,99,116,105,118,97,116,101,32]⟩:ByteArray)++r++(⟨#[32,105,110,32]⟩:ByteArray)++s
 | _=>(⟨#[100,97,121,32]⟩:ByteArray)++d
def zT (c:Pc):ByteArray:=Qh c.k (zC c.n0) (zC c.n1) (zC c.n2) (zC c.n3) (zC c.n4) (zC c.n5) (str c.nm) (zC c.tx.length) (str (jD c.ac c.pa c.dp))
theorem uC:(⟨#[32]⟩:ByteArray).size=1:=rfl
theorem uB:(⟨#[32,98,121,32]⟩:ByteArray).size=4:=rfl
theorem uA:(⟨#[32,98,121,116,101,115]⟩:ByteArray).size=6:=rfl
theorem nA:(⟨#[32,102,114,111,109,32]⟩:ByteArray).size=6:=rfl
theorem uz:(⟨#[32,105,110,32]⟩:ByteArray).size=4:=rfl
theorem CW:(⟨#[32,111,118,101,114,32]⟩:ByteArray).size=6:=rfl
theorem uy:(⟨#[32,116,111,32]⟩:ByteArray).size=4:=rfl
theorem ux:(⟨#[32,117,110,116,105,108,32]⟩:ByteArray).size=7:=rfl
theorem CV:(⟨#[97,99,116,105,118,97,116,101,32]⟩:ByteArray).size=9:=rfl
theorem CU:(⟨#[97,100,100,32,97,100,109,105,110,32]⟩:ByteArray).size=10:=rfl
theorem vY:(⟨#[97,100,100,32,114,111,108,101,32]⟩:ByteArray).size=9:=rfl
theorem vX:(⟨#[97,100,100,32,117,115,101,114,32]⟩:ByteArray).size=9:=rfl
theorem vW:(⟨#[97,112,112,111,105,110,116,32]⟩:ByteArray).size=8:=rfl
theorem vV:(⟨#[97,115,115,105,103,110,32]⟩:ByteArray).size=7:=rfl
theorem vU:(⟨#[99,108,111,115,101,32]⟩:ByteArray).size=6:=rfl
theorem vT:(⟨#[100,97,121,32]⟩:ByteArray).size=4:=rfl
theorem vS:(⟨#[100,101,97,99,116,105,118,97,116,101,32]⟩:ByteArray).size=11:=rfl
theorem vR:(⟨#[100,105,115,109,105,115,115,32]⟩:ByteArray).size=8:=rfl
theorem vQ:(⟨#[103,114,97,110,116,32]⟩:ByteArray).size=6:=rfl
theorem vP:(⟨#[108,105,110,107,32]⟩:ByteArray).size=5:=rfl
theorem vO:(⟨#[111,112,101,110,32,102,111,114,32]⟩:ByteArray).size=9:=rfl
theorem vN:(⟨#[114,101,118,111,107,101,32]⟩:ByteArray).size=7:=rfl
theorem vM:(⟨#[115,101,116,32,99,111,110,115,116,114,97,105,110,116,115,44,32]⟩:ByteArray).size=17:=rfl
theorem vL:(⟨#[115,101,116,32,114,117,108,101,115,44,32]⟩:ByteArray).size=11:=rfl
theorem vK:(⟨#[117,110,108,105,110,107,32]⟩:ByteArray).size=7:=rfl
theorem vJ:(⟨#[119,105,116,104,100,114,97,119,32]⟩:ByteArray).size=9:=rfl
theorem gx (w:World) (k:Nat) (os:Array Obj):Grown w (Sort.grow (w.drewN k) os):=
 ⟨fun c hc=>by
  show (w.heap++os)[c]? = _
  rw [Array.getElem?_append_left hc],by show w.heap.size≤(w.heap++os).size;rw [Array.size_append];omega,rfl,rfl,rfl⟩
theorem jd {w:World}{n:Nat} (h:n≤99):Calls Tryz.prog 44 #[.int .i64 (n:Nat)] w (oy (zC n) w):=(Tryz.strconv_Itoa_small n (by omega) w).mono fun _ _ h=>h
abbrev kV (w:World):Prop:=Lib.TabIs Tryz.prog w "internal/strconv.uint64pow10" .u64 Lib.pow10Tab
theorem kV.grown {w w2:World} (h:kV w) (g:Grown w w2):kV w2:=by
 unfold kV Lib.TabIs World.var? at h ⊢
 cases hg:Tryz.prog.globalNamed "internal/strconv.uint64pow10" with
 | none=>rw [hg]at h;cases h
 | some i=>
  rw [hg]at h
  simp only [Option.bind_some]at h ⊢
  cases hh:w.heap[i]? with
  | none=>rw [hh]at h;cases h
  | some ob=>
   rw [g.old i (Array.getElem?_eq_some_iff.1 hh).1]
   exact h
theorem r7 {w:World}{n:Nat} (h:n≤100000) (ht:kV w):Calls Tryz.prog 44 #[.int .i64 (n:Nat)] w (GrV (.string (zC n)) w):=by
 refine (Tryz.strconv_Itoa (n:Int) (by omega) (by omega) w ht).mono ?_
 rintro e w2 ⟨rfl,k,os,rfl⟩
 refine ⟨?_,gx w k os⟩
 rw [Lib.itoa_nonneg]
 rfl
end MK
end
section
open Go Go.Proofs TR
namespace MK
open Go.AEv.GT (zO qq)
attribute [local go_sem ↓] Go.wp_at_zero Go.wp_at_succ
structure Tx (c:Pc):Prop where
 k:1≤c.k∧c.k≤18
 n0:c.n0≤99
 n1:c.n1≤99
 n2:c.n2≤99
 n3:c.n3≤99
 n4:c.n4≤99
 n5:c.n5≤99
 nm:c.nm.length≤20
 tx:c.tx.length≤10000
 pm:c.k=6∨c.k=7→c.ac∈jg∧c.pa∈qx
theorem qz {n:Nat} (h:n≤99):(zC n).size≤2:=Zz 1 (by omega)
theorem Vl {n:Nat} (h:n≤10000):(zC n).size≤5:=Zz 4 (by omega)
theorem JI {a p:List Nat} (ha:a∈jg) (hp:p∈qx) (d:Bool):(str (jD a p d)).size≤20:=by
 rw [qL]
 have h:(jg.all fun a=>qx.all fun p=>decide ((jD a p true).length≤20)&&decide ((jD a p false).length≤20))=true:=by decide
 have:=List.all_eq_true.1 (List.all_eq_true.1 h a ha) p hp
 rw [Bool.and_eq_true]at this
 cases d
 ·exact of_decide_eq_true this.2
 ·exact of_decide_eq_true this.1
theorem kinds {c:Pc} (h:1≤c.k∧c.k≤18):c.k=1∨c.k=2∨c.k=3∨c.k=4∨c.k=5∨c.k=6∨c.k=7∨c.k=8∨c.k=9∨c.k=10∨c.k=11∨c.k=12∨c.k=13∨c.k=14∨c.k=15∨c.k=16∨c.k=17∨c.k=18:=by omega
theorem oZ {w:World}{c:Pc} (hc:Nrm c) (hx:Tx c) (ht:kV w) (hk:c.k=1):Calls Tryz.prog 12 #[.agg c.cells.toArray] w (GrV (.string (zT c)) w):=by
 have HC:=Lib.hid hc
 have HT:=Lib.hid ht
 have hq:zT c=Qh 1 (zC c.n0) (zC c.n1) (zC c.n2) (zC c.n3) (zC c.n4) (zC c.n5) (str c.nm) (zC c.tx.length) (str (jD c.ac c.pa c.dp)):=by unfold zT;rw [hk]
 rw [hq]
 have X0:=Lib.hid (zn w (z:=c.cells.toArray) (t:=34))
 have G0:=Lib.hid (za w (.cells c.cells.toArray 34))
 have h1:1≤c.k:=by omega
 have HK:=Lib.hid hk
 have HX:=Lib.hid hx
 clear ht hq hk
 go_enter Tryz.func12,Tryz.ntmps12
 go_upto_region 3 with (first
  | (go_at_call 15;(with_reducible refine (qJ HC.out h1).mono ?_);rintro e w2 ⟨rfl,g2⟩;have G2:=Lib.hid (G0.out.trans' g2);have R2:=Lib.hid (zk g2 X0.out);have T2:=Lib.hid (HT.out.grown G2.out);clear g2))
 obtain ⟨x0,x1,x2,x3,x4,x5,x6,x7,x8,x9,x10,x11⟩:=qc R2.out
 rw [HK.out]at x0
 clear X0 G0 HT h1
 have q0:=vX
 have znm:(str c.nm).size≤20:=by rw [qL];exact hx.nm
 go_wp2_with fail
 go_ret
 exact ⟨rfl,G2.out⟩
theorem oY {w:World}{c:Pc} (hc:Nrm c) (hx:Tx c) (ht:kV w) (hk:c.k=2):Calls Tryz.prog 12 #[.agg c.cells.toArray] w (GrV (.string (zT c)) w):=by
 have HC:=Lib.hid hc
 have HT:=Lib.hid ht
 have hq:zT c=Qh 2 (zC c.n0) (zC c.n1) (zC c.n2) (zC c.n3) (zC c.n4) (zC c.n5) (str c.nm) (zC c.tx.length) (str (jD c.ac c.pa c.dp)):=by unfold zT;rw [hk]
 rw [hq]
 have X0:=Lib.hid (zn w (z:=c.cells.toArray) (t:=34))
 have G0:=Lib.hid (za w (.cells c.cells.toArray 34))
 have h1:1≤c.k:=by omega
 have HK:=Lib.hid hk
 have HX:=Lib.hid hx
 clear ht hq hk
 go_enter Tryz.func12,Tryz.ntmps12
 go_upto_region 3 with (first
  | (go_at_call 15;(with_reducible refine (qJ HC.out h1).mono ?_);rintro e w2 ⟨rfl,g2⟩;have G2:=Lib.hid (G0.out.trans' g2);have R2:=Lib.hid (zk g2 X0.out);have T2:=Lib.hid (HT.out.grown G2.out);clear g2))
 obtain ⟨x0,x1,x2,x3,x4,x5,x6,x7,x8,x9,x10,x11⟩:=qc R2.out
 rw [HK.out]at x0
 clear X0 G0 HT h1
 have q0:=vY
 have znm:(str c.nm).size≤20:=by rw [qL];exact hx.nm
 go_wp2_with fail
 go_ret
 exact ⟨rfl,G2.out⟩
theorem oX {w:World}{c:Pc} (hc:Nrm c) (hx:Tx c) (ht:kV w) (hk:c.k=3):Calls Tryz.prog 12 #[.agg c.cells.toArray] w (GrV (.string (zT c)) w):=by
 have HC:=Lib.hid hc
 have HT:=Lib.hid ht
 have hq:zT c=Qh 3 (zC c.n0) (zC c.n1) (zC c.n2) (zC c.n3) (zC c.n4) (zC c.n5) (str c.nm) (zC c.tx.length) (str (jD c.ac c.pa c.dp)):=by unfold zT;rw [hk]
 rw [hq]
 have X0:=Lib.hid (zn w (z:=c.cells.toArray) (t:=34))
 have G0:=Lib.hid (za w (.cells c.cells.toArray 34))
 have h1:1≤c.k:=by omega
 have HK:=Lib.hid hk
 have HX:=Lib.hid hx
 clear ht hq hk
 go_enter Tryz.func12,Tryz.ntmps12
 go_upto_region 3 with (first
  | (go_at_call 15;(with_reducible refine (qJ HC.out h1).mono ?_);rintro e w2 ⟨rfl,g2⟩;have G2:=Lib.hid (G0.out.trans' g2);have R2:=Lib.hid (zk g2 X0.out);have T2:=Lib.hid (HT.out.grown G2.out);clear g2))
 obtain ⟨x0,x1,x2,x3,x4,x5,x6,x7,x8,x9,x10,x11⟩:=qc R2.out
 rw [HK.out]at x0
 clear X0 G0 HT h1
 have q0:=CU
 have znm:(str c.nm).size≤20:=by rw [qL];exact hx.nm
 go_wp2_with fail
 go_ret
 exact ⟨rfl,G2.out⟩
theorem oW {w:World}{c:Pc} (hc:Nrm c) (hx:Tx c) (ht:kV w) (hk:c.k=4):Calls Tryz.prog 12 #[.agg c.cells.toArray] w (GrV (.string (zT c)) w):=by
 have HC:=Lib.hid hc
 have HT:=Lib.hid ht
 have hq:zT c=Qh 4 (zC c.n0) (zC c.n1) (zC c.n2) (zC c.n3) (zC c.n4) (zC c.n5) (str c.nm) (zC c.tx.length) (str (jD c.ac c.pa c.dp)):=by unfold zT;rw [hk]
 rw [hq]
 have X0:=Lib.hid (zn w (z:=c.cells.toArray) (t:=34))
 have G0:=Lib.hid (za w (.cells c.cells.toArray 34))
 have h1:1≤c.k:=by omega
 have HK:=Lib.hid hk
 have HX:=Lib.hid hx
 clear ht hq hk
 go_enter Tryz.func12,Tryz.ntmps12
 go_upto_region 3 with (first
  | (go_at_call 15;(with_reducible refine (qJ HC.out h1).mono ?_);rintro e w2 ⟨rfl,g2⟩;have G2:=Lib.hid (G0.out.trans' g2);have R2:=Lib.hid (zk g2 X0.out);have T2:=Lib.hid (HT.out.grown G2.out);clear g2))
 obtain ⟨x0,x1,x2,x3,x4,x5,x6,x7,x8,x9,x10,x11⟩:=qc R2.out
 rw [HK.out]at x0
 clear X0 G0 HT h1
 have q0:=vP
 have q2:=CW
 have zn2:=qz hx.n2
 have zn3:=qz hx.n3
 go_wp2_with fail
 go_quiet (first | (go_at_call 44;exact Calls.quiet_of_same (jd hx.n2)) | (go_at_call 44;exact Calls.quiet_of_same (jd hx.n3)))
 go_wp2_with fail
 go_ret
 exact ⟨rfl,G2.out.trans' (qf _ _)⟩
theorem oV {w:World}{c:Pc} (hc:Nrm c) (hx:Tx c) (ht:kV w) (hk:c.k=5):Calls Tryz.prog 12 #[.agg c.cells.toArray] w (GrV (.string (zT c)) w):=by
 have HC:=Lib.hid hc
 have HT:=Lib.hid ht
 have hq:zT c=Qh 5 (zC c.n0) (zC c.n1) (zC c.n2) (zC c.n3) (zC c.n4) (zC c.n5) (str c.nm) (zC c.tx.length) (str (jD c.ac c.pa c.dp)):=by unfold zT;rw [hk]
 rw [hq]
 have X0:=Lib.hid (zn w (z:=c.cells.toArray) (t:=34))
 have G0:=Lib.hid (za w (.cells c.cells.toArray 34))
 have h1:1≤c.k:=by omega
 have HK:=Lib.hid hk
 have HX:=Lib.hid hx
 clear ht hq hk
 go_enter Tryz.func12,Tryz.ntmps12
 go_upto_region 3 with (first
  | (go_at_call 15;(with_reducible refine (qJ HC.out h1).mono ?_);rintro e w2 ⟨rfl,g2⟩;have G2:=Lib.hid (G0.out.trans' g2);have R2:=Lib.hid (zk g2 X0.out);have T2:=Lib.hid (HT.out.grown G2.out);clear g2))
 obtain ⟨x0,x1,x2,x3,x4,x5,x6,x7,x8,x9,x10,x11⟩:=qc R2.out
 rw [HK.out]at x0
 clear X0 G0 HT h1
 have q0:=vK
 have q2:=nA
 have zn2:=qz hx.n2
 have zn3:=qz hx.n3
 go_wp2_with fail
 go_quiet (first | (go_at_call 44;exact Calls.quiet_of_same (jd hx.n2)) | (go_at_call 44;exact Calls.quiet_of_same (jd hx.n3)))
 go_wp2_with fail
 go_ret
 exact ⟨rfl,G2.out.trans' (qf _ _)⟩
theorem oU {w:World}{c:Pc} (hc:Nrm c) (hx:Tx c) (ht:kV w) (hk:c.k=6):Calls Tryz.prog 12 #[.agg c.cells.toArray] w (GrV (.string (zT c)) w):=by
 have HC:=Lib.hid hc
 have HT:=Lib.hid ht
 have hq:zT c=Qh 6 (zC c.n0) (zC c.n1) (zC c.n2) (zC c.n3) (zC c.n4) (zC c.n5) (str c.nm) (zC c.tx.length) (str (jD c.ac c.pa c.dp)):=by unfold zT;rw [hk]
 rw [hq]
 have X0:=Lib.hid (zn w (z:=c.cells.toArray) (t:=34))
 have G0:=Lib.hid (za w (.cells c.cells.toArray 34))
 have h1:1≤c.k:=by omega
 have HK:=Lib.hid hk
 have HX:=Lib.hid hx
 clear ht hq hk
 go_enter Tryz.func12,Tryz.ntmps12
 go_upto_region 3 with (first
  | (go_at_call 15;(with_reducible refine (qJ HC.out h1).mono ?_);rintro e w2 ⟨rfl,g2⟩;have G2:=Lib.hid (G0.out.trans' g2);have R2:=Lib.hid (zk g2 X0.out);have T2:=Lib.hid (HT.out.grown G2.out);clear g2))
 obtain ⟨x0,x1,x2,x3,x4,x5,x6,x7,x8,x9,x10,x11⟩:=qc R2.out
 rw [HK.out]at x0
 clear X0 G0 HT h1
 have q0:=vQ
 have q2:=uC
 have zn2:=qz hx.n2
 obtain ⟨pa,pp⟩:=hx.pm (by have:=HK.out;omega)
 have zpt:=JI pa pp c.dp
 have x0:w2.cell? ⟨w.heap.size,0,none⟩=some (.int .u8 6):=x0
 have HS:RowKit.Hid (∀ wx,Grown w2 wx→wx.cell? ⟨w.heap.size,0,none⟩=some (.int .u8 6)∧wx.cell? ⟨w.heap.size,3,none⟩=some (.int .i64 (c.n2:Nat))∧wx.cell? ⟨w.heap.size,9,none⟩=some (.string (str c.ac))∧wx.cell? ⟨w.heap.size,10,none⟩=some (.string (str c.pa))∧wx.cell? ⟨w.heap.size,11,none⟩=some (.bool c.dp)):=Lib.hid (fun wx g=>⟨RD.ze x0 g,RD.ze x3 g,RD.ze x9 g,RD.ze x10 g,RD.ze x11 g⟩)
 have b1:¬ 9223372036854775807<6+(zC c.n2).size:=by have:=zn2;omega
 have b2:¬ 9223372036854775807<6+(zC c.n2).size+1:=by have:=zn2;omega
 have b3:¬ 9223372036854775807<6+(zC c.n2).size+1+(str (jD c.ac c.pa c.dp)).size:=by have:=zn2;omega
 go_upto_region 16 with fail
 go_region_held3 (fun wx=>wx.cell? ⟨w.heap.size,0,none⟩=some (.int .u8 6)∧wx.cell? ⟨w.heap.size,3,none⟩=some (.int .i64 (c.n2:Nat))∧wx.cell? ⟨w.heap.size,9,none⟩=some (.string (str c.ac))∧wx.cell? ⟨w.heap.size,10,none⟩=some (.string (str c.pa))∧wx.cell? ⟨w.heap.size,11,none⟩=some (.bool c.dp))
  (first | with_reducible exact ⟨x0,x3,x9,x10,x11⟩ | with_reducible exact HS.out _ (zp _) | with_reducible exact HS.out _ G4.out)
  (first
   | (go_at_call 44;(with_reducible refine (jd HX.out.n2).mono ?_);rintro e w3 ⟨rfl,rfl⟩)
   | (go_at_call 45;(with_reducible refine (aY vI pa pp c.dp).mono ?_);rintro e w4 ⟨rfl,g4⟩;have G4:=Lib.hid ((zp _).trans' g4);clear g4))
 all_goals (
  dsimp only [Exit.then]
  go_wp2_with fail
  go_ret
  exact ⟨rfl,G2.out.trans' G4.out⟩)
theorem oT {w:World}{c:Pc} (hc:Nrm c) (hx:Tx c) (ht:kV w) (hk:c.k=7):Calls Tryz.prog 12 #[.agg c.cells.toArray] w (GrV (.string (zT c)) w):=by
 have HC:=Lib.hid hc
 have HT:=Lib.hid ht
 have hq:zT c=Qh 7 (zC c.n0) (zC c.n1) (zC c.n2) (zC c.n3) (zC c.n4) (zC c.n5) (str c.nm) (zC c.tx.length) (str (jD c.ac c.pa c.dp)):=by unfold zT;rw [hk]
 rw [hq]
 have X0:=Lib.hid (zn w (z:=c.cells.toArray) (t:=34))
 have G0:=Lib.hid (za w (.cells c.cells.toArray 34))
 have h1:1≤c.k:=by omega
 have HK:=Lib.hid hk
 have HX:=Lib.hid hx
 clear ht hq hk
 go_enter Tryz.func12,Tryz.ntmps12
 go_upto_region 3 with (first
  | (go_at_call 15;(with_reducible refine (qJ HC.out h1).mono ?_);rintro e w2 ⟨rfl,g2⟩;have G2:=Lib.hid (G0.out.trans' g2);have R2:=Lib.hid (zk g2 X0.out);have T2:=Lib.hid (HT.out.grown G2.out);clear g2))
 obtain ⟨x0,x1,x2,x3,x4,x5,x6,x7,x8,x9,x10,x11⟩:=qc R2.out
 rw [HK.out]at x0
 clear X0 G0 HT h1
 have q0:=vJ
 have q2:=uC
 have zn2:=qz hx.n2
 obtain ⟨pa,pp⟩:=hx.pm (by have:=HK.out;omega)
 have zpt:=JI pa pp c.dp
 have x0:w2.cell? ⟨w.heap.size,0,none⟩=some (.int .u8 7):=x0
 have HS:RowKit.Hid (∀ wx,Grown w2 wx→wx.cell? ⟨w.heap.size,0,none⟩=some (.int .u8 7)∧wx.cell? ⟨w.heap.size,3,none⟩=some (.int .i64 (c.n2:Nat))∧wx.cell? ⟨w.heap.size,9,none⟩=some (.string (str c.ac))∧wx.cell? ⟨w.heap.size,10,none⟩=some (.string (str c.pa))∧wx.cell? ⟨w.heap.size,11,none⟩=some (.bool c.dp)):=Lib.hid (fun wx g=>⟨RD.ze x0 g,RD.ze x3 g,RD.ze x9 g,RD.ze x10 g,RD.ze x11 g⟩)
 have b1:¬ 9223372036854775807<9+(zC c.n2).size:=by have:=zn2;omega
 have b2:¬ 9223372036854775807<9+(zC c.n2).size+1:=by have:=zn2;omega
 have b3:¬ 9223372036854775807<9+(zC c.n2).size+1+(str (jD c.ac c.pa c.dp)).size:=by have:=zn2;omega
 go_upto_region 18 with fail
 go_region_held3 (fun wx=>wx.cell? ⟨w.heap.size,0,none⟩=some (.int .u8 7)∧wx.cell? ⟨w.heap.size,3,none⟩=some (.int .i64 (c.n2:Nat))∧wx.cell? ⟨w.heap.size,9,none⟩=some (.string (str c.ac))∧wx.cell? ⟨w.heap.size,10,none⟩=some (.string (str c.pa))∧wx.cell? ⟨w.heap.size,11,none⟩=some (.bool c.dp))
  (first | with_reducible exact ⟨x0,x3,x9,x10,x11⟩ | with_reducible exact HS.out _ (zp _) | with_reducible exact HS.out _ G4.out)
  (first
   | (go_at_call 44;(with_reducible refine (jd HX.out.n2).mono ?_);rintro e w3 ⟨rfl,rfl⟩)
   | (go_at_call 45;(with_reducible refine (aY vI pa pp c.dp).mono ?_);rintro e w4 ⟨rfl,g4⟩;have G4:=Lib.hid ((zp _).trans' g4);clear g4))
 all_goals (
  dsimp only [Exit.then]
  go_wp2_with fail
  go_ret
  exact ⟨rfl,G2.out.trans' G4.out⟩)
theorem oS {w:World}{c:Pc} (hc:Nrm c) (hx:Tx c) (ht:kV w) (hk:c.k=8):Calls Tryz.prog 12 #[.agg c.cells.toArray] w (GrV (.string (zT c)) w):=by
 have HC:=Lib.hid hc
 have HT:=Lib.hid ht
 have hq:zT c=Qh 8 (zC c.n0) (zC c.n1) (zC c.n2) (zC c.n3) (zC c.n4) (zC c.n5) (str c.nm) (zC c.tx.length) (str (jD c.ac c.pa c.dp)):=by unfold zT;rw [hk]
 rw [hq]
 have X0:=Lib.hid (zn w (z:=c.cells.toArray) (t:=34))
 have G0:=Lib.hid (za w (.cells c.cells.toArray 34))
 have h1:1≤c.k:=by omega
 have HK:=Lib.hid hk
 have HX:=Lib.hid hx
 clear ht hq hk
 go_enter Tryz.func12,Tryz.ntmps12
 go_upto_region 3 with (first
  | (go_at_call 15;(with_reducible refine (qJ HC.out h1).mono ?_);rintro e w2 ⟨rfl,g2⟩;have G2:=Lib.hid (G0.out.trans' g2);have R2:=Lib.hid (zk g2 X0.out);have T2:=Lib.hid (HT.out.grown G2.out);clear g2))
 obtain ⟨x0,x1,x2,x3,x4,x5,x6,x7,x8,x9,x10,x11⟩:=qc R2.out
 rw [HK.out]at x0
 clear X0 G0 HT h1
 have q0:=vW
 have q2:=uy
 have q4:=ux
 have zn1:=qz hx.n1
 have zn2:=qz hx.n2
 have zn5:=qz hx.n5
 go_wp2_with fail
 go_quiet (first | (go_at_call 44;exact Calls.quiet_of_same (jd hx.n1)) | (go_at_call 44;exact Calls.quiet_of_same (jd hx.n2)) | (go_at_call 44;exact Calls.quiet_of_same (jd hx.n5)))
 go_wp2_with fail
 go_ret
 exact ⟨rfl,G2.out.trans' (qf _ _)⟩
theorem oR {w:World}{c:Pc} (hc:Nrm c) (hx:Tx c) (ht:kV w) (hk:c.k=9):Calls Tryz.prog 12 #[.agg c.cells.toArray] w (GrV (.string (zT c)) w):=by
 have HC:=Lib.hid hc
 have HT:=Lib.hid ht
 have hq:zT c=Qh 9 (zC c.n0) (zC c.n1) (zC c.n2) (zC c.n3) (zC c.n4) (zC c.n5) (str c.nm) (zC c.tx.length) (str (jD c.ac c.pa c.dp)):=by unfold zT;rw [hk]
 rw [hq]
 have X0:=Lib.hid (zn w (z:=c.cells.toArray) (t:=34))
 have G0:=Lib.hid (za w (.cells c.cells.toArray 34))
 have h1:1≤c.k:=by omega
 have HK:=Lib.hid hk
 have HX:=Lib.hid hx
 clear ht hq hk
 go_enter Tryz.func12,Tryz.ntmps12
 go_upto_region 3 with (first
  | (go_at_call 15;(with_reducible refine (qJ HC.out h1).mono ?_);rintro e w2 ⟨rfl,g2⟩;have G2:=Lib.hid (G0.out.trans' g2);have R2:=Lib.hid (zk g2 X0.out);have T2:=Lib.hid (HT.out.grown G2.out);clear g2))
 obtain ⟨x0,x1,x2,x3,x4,x5,x6,x7,x8,x9,x10,x11⟩:=qc R2.out
 rw [HK.out]at x0
 clear X0 G0 HT h1
 have q0:=vR
 have q2:=nA
 have zn1:=qz hx.n1
 have zn2:=qz hx.n2
 go_wp2_with fail
 go_quiet (first | (go_at_call 44;exact Calls.quiet_of_same (jd hx.n1)) | (go_at_call 44;exact Calls.quiet_of_same (jd hx.n2)))
 go_wp2_with fail
 go_ret
 exact ⟨rfl,G2.out.trans' (qf _ _)⟩
theorem mO {w:World}{c:Pc} (hc:Nrm c) (hx:Tx c) (ht:kV w) (hk:c.k=10):Calls Tryz.prog 12 #[.agg c.cells.toArray] w (GrV (.string (zT c)) w):=by
 have HC:=Lib.hid hc
 have HT:=Lib.hid ht
 have hq:zT c=Qh 10 (zC c.n0) (zC c.n1) (zC c.n2) (zC c.n3) (zC c.n4) (zC c.n5) (str c.nm) (zC c.tx.length) (str (jD c.ac c.pa c.dp)):=by unfold zT;rw [hk]
 rw [hq]
 have X0:=Lib.hid (zn w (z:=c.cells.toArray) (t:=34))
 have G0:=Lib.hid (za w (.cells c.cells.toArray 34))
 have h1:1≤c.k:=by omega
 have HK:=Lib.hid hk
 have HX:=Lib.hid hx
 clear ht hq hk
 go_enter Tryz.func12,Tryz.ntmps12
 go_upto_region 3 with (first
  | (go_at_call 15;(with_reducible refine (qJ HC.out h1).mono ?_);rintro e w2 ⟨rfl,g2⟩;have G2:=Lib.hid (G0.out.trans' g2);have R2:=Lib.hid (zk g2 X0.out);have T2:=Lib.hid (HT.out.grown G2.out);clear g2))
 obtain ⟨x0,x1,x2,x3,x4,x5,x6,x7,x8,x9,x10,x11⟩:=qc R2.out
 rw [HK.out]at x0
 clear X0 G0 HT h1
 have q0:=vL
 have q2:=uA
 have zln:=Vl hx.tx
 have htx:=hx.tx
 have hln:((str c.tx).size:Int)=((c.tx.length:Nat):Int):=by rw [qL]
 go_wp2_with (first
  | (go_at_call 44;(with_reducible refine (r7 (n:=c.tx.length) (by omega) T2.out).mono ?_);rintro e w3 ⟨rfl,g3⟩;have G3:=Lib.hid (G2.out.trans' g3);clear g3))
 go_ret
 exact ⟨rfl,G3.out⟩
theorem mN {w:World}{c:Pc} (hc:Nrm c) (hx:Tx c) (ht:kV w) (hk:c.k=11):Calls Tryz.prog 12 #[.agg c.cells.toArray] w (GrV (.string (zT c)) w):=by
 have HC:=Lib.hid hc
 have HT:=Lib.hid ht
 have hq:zT c=Qh 11 (zC c.n0) (zC c.n1) (zC c.n2) (zC c.n3) (zC c.n4) (zC c.n5) (str c.nm) (zC c.tx.length) (str (jD c.ac c.pa c.dp)):=by unfold zT;rw [hk]
 rw [hq]
 have X0:=Lib.hid (zn w (z:=c.cells.toArray) (t:=34))
 have G0:=Lib.hid (za w (.cells c.cells.toArray 34))
 have h1:1≤c.k:=by omega
 have HK:=Lib.hid hk
 have HX:=Lib.hid hx
 clear ht hq hk
 go_enter Tryz.func12,Tryz.ntmps12
 go_upto_region 3 with (first
  | (go_at_call 15;(with_reducible refine (qJ HC.out h1).mono ?_);rintro e w2 ⟨rfl,g2⟩;have G2:=Lib.hid (G0.out.trans' g2);have R2:=Lib.hid (zk g2 X0.out);have T2:=Lib.hid (HT.out.grown G2.out);clear g2))
 obtain ⟨x0,x1,x2,x3,x4,x5,x6,x7,x8,x9,x10,x11⟩:=qc R2.out
 rw [HK.out]at x0
 clear X0 G0 HT h1
 have q0:=vM
 have q2:=uA
 have zln:=Vl hx.tx
 have htx:=hx.tx
 have hln:((str c.tx).size:Int)=((c.tx.length:Nat):Int):=by rw [qL]
 go_wp2_with (first
  | (go_at_call 44;(with_reducible refine (r7 (n:=c.tx.length) (by omega) T2.out).mono ?_);rintro e w3 ⟨rfl,g3⟩;have G3:=Lib.hid (G2.out.trans' g3);clear g3))
 go_ret
 exact ⟨rfl,G3.out⟩
theorem mM {w:World}{c:Pc} (hc:Nrm c) (hx:Tx c) (ht:kV w) (hk:c.k=12):Calls Tryz.prog 12 #[.agg c.cells.toArray] w (GrV (.string (zT c)) w):=by
 have HC:=Lib.hid hc
 have HT:=Lib.hid ht
 have hq:zT c=Qh 12 (zC c.n0) (zC c.n1) (zC c.n2) (zC c.n3) (zC c.n4) (zC c.n5) (str c.nm) (zC c.tx.length) (str (jD c.ac c.pa c.dp)):=by unfold zT;rw [hk]
 rw [hq]
 have X0:=Lib.hid (zn w (z:=c.cells.toArray) (t:=34))
 have G0:=Lib.hid (za w (.cells c.cells.toArray 34))
 have h1:1≤c.k:=by omega
 have HK:=Lib.hid hk
 have HX:=Lib.hid hx
 clear ht hq hk
 go_enter Tryz.func12,Tryz.ntmps12
 go_upto_region 3 with (first
  | (go_at_call 15;(with_reducible refine (qJ HC.out h1).mono ?_);rintro e w2 ⟨rfl,g2⟩;have G2:=Lib.hid (G0.out.trans' g2);have R2:=Lib.hid (zk g2 X0.out);have T2:=Lib.hid (HT.out.grown G2.out);clear g2))
 obtain ⟨x0,x1,x2,x3,x4,x5,x6,x7,x8,x9,x10,x11⟩:=qc R2.out
 rw [HK.out]at x0
 clear X0 G0 HT h1
 have q0:=vV
 have q2:=uy
 have q4:=uB
 have q6:=ux
 have zn2:=qz hx.n2
 have zn1:=qz hx.n1
 have zn0:=qz hx.n0
 have zn5:=qz hx.n5
 go_wp2_with fail
 go_quiet (first | (go_at_call 44;exact Calls.quiet_of_same (jd hx.n2)) | (go_at_call 44;exact Calls.quiet_of_same (jd hx.n1)) | (go_at_call 44;exact Calls.quiet_of_same (jd hx.n0)) | (go_at_call 44;exact Calls.quiet_of_same (jd hx.n5)))
 go_wp2_with fail
 go_ret
 exact ⟨rfl,G2.out.trans' (qf _ _)⟩
theorem mL {w:World}{c:Pc} (hc:Nrm c) (hx:Tx c) (ht:kV w) (hk:c.k=13):Calls Tryz.prog 12 #[.agg c.cells.toArray] w (GrV (.string (zT c)) w):=by
 have HC:=Lib.hid hc
 have HT:=Lib.hid ht
 have hq:zT c=Qh 13 (zC c.n0) (zC c.n1) (zC c.n2) (zC c.n3) (zC c.n4) (zC c.n5) (str c.nm) (zC c.tx.length) (str (jD c.ac c.pa c.dp)):=by unfold zT;rw [hk]
 rw [hq]
 have X0:=Lib.hid (zn w (z:=c.cells.toArray) (t:=34))
 have G0:=Lib.hid (za w (.cells c.cells.toArray 34))
 have h1:1≤c.k:=by omega
 have HK:=Lib.hid hk
 have HX:=Lib.hid hx
 clear ht hq hk
 go_enter Tryz.func12,Tryz.ntmps12
 go_upto_region 3 with (first
  | (go_at_call 15;(with_reducible refine (qJ HC.out h1).mono ?_);rintro e w2 ⟨rfl,g2⟩;have G2:=Lib.hid (G0.out.trans' g2);have R2:=Lib.hid (zk g2 X0.out);have T2:=Lib.hid (HT.out.grown G2.out);clear g2))
 obtain ⟨x0,x1,x2,x3,x4,x5,x6,x7,x8,x9,x10,x11⟩:=qc R2.out
 rw [HK.out]at x0
 clear X0 G0 HT h1
 have q0:=vN
 have q2:=nA
 have q4:=uB
 have zn2:=qz hx.n2
 have zn1:=qz hx.n1
 have zn0:=qz hx.n0
 go_wp2_with fail
 go_quiet (first | (go_at_call 44;exact Calls.quiet_of_same (jd hx.n2)) | (go_at_call 44;exact Calls.quiet_of_same (jd hx.n1)) | (go_at_call 44;exact Calls.quiet_of_same (jd hx.n0)))
 go_wp2_with fail
 go_ret
 exact ⟨rfl,G2.out.trans' (qf _ _)⟩
theorem mK {w:World}{c:Pc} (hc:Nrm c) (hx:Tx c) (ht:kV w) (hk:c.k=14):Calls Tryz.prog 12 #[.agg c.cells.toArray] w (GrV (.string (zT c)) w):=by
 have HC:=Lib.hid hc
 have HT:=Lib.hid ht
 have hq:zT c=Qh 14 (zC c.n0) (zC c.n1) (zC c.n2) (zC c.n3) (zC c.n4) (zC c.n5) (str c.nm) (zC c.tx.length) (str (jD c.ac c.pa c.dp)):=by unfold zT;rw [hk]
 rw [hq]
 have X0:=Lib.hid (zn w (z:=c.cells.toArray) (t:=34))
 have G0:=Lib.hid (za w (.cells c.cells.toArray 34))
 have h1:1≤c.k:=by omega
 have HK:=Lib.hid hk
 have HX:=Lib.hid hx
 clear ht hq hk
 go_enter Tryz.func12,Tryz.ntmps12
 go_upto_region 3 with (first
  | (go_at_call 15;(with_reducible refine (qJ HC.out h1).mono ?_);rintro e w2 ⟨rfl,g2⟩;have G2:=Lib.hid (G0.out.trans' g2);have R2:=Lib.hid (zk g2 X0.out);have T2:=Lib.hid (HT.out.grown G2.out);clear g2))
 obtain ⟨x0,x1,x2,x3,x4,x5,x6,x7,x8,x9,x10,x11⟩:=qc R2.out
 rw [HK.out]at x0
 clear X0 G0 HT h1
 have q0:=vO
 have zn1:=qz hx.n1
 go_wp2_with (first
  | (go_at_call 44;(with_reducible refine (jd hx.n1).mono ?_);rintro e w3 ⟨rfl,rfl⟩))
 go_ret
 exact ⟨rfl,G2.out⟩
theorem mJ {w:World}{c:Pc} (hc:Nrm c) (hx:Tx c) (ht:kV w) (hk:c.k=15):Calls Tryz.prog 12 #[.agg c.cells.toArray] w (GrV (.string (zT c)) w):=by
 have HC:=Lib.hid hc
 have HT:=Lib.hid ht
 have hq:zT c=Qh 15 (zC c.n0) (zC c.n1) (zC c.n2) (zC c.n3) (zC c.n4) (zC c.n5) (str c.nm) (zC c.tx.length) (str (jD c.ac c.pa c.dp)):=by unfold zT;rw [hk]
 rw [hq]
 have X0:=Lib.hid (zn w (z:=c.cells.toArray) (t:=34))
 have G0:=Lib.hid (za w (.cells c.cells.toArray 34))
 have h1:1≤c.k:=by omega
 have HK:=Lib.hid hk
 have HX:=Lib.hid hx
 clear ht hq hk
 go_enter Tryz.func12,Tryz.ntmps12
 go_upto_region 3 with (first
  | (go_at_call 15;(with_reducible refine (qJ HC.out h1).mono ?_);rintro e w2 ⟨rfl,g2⟩;have G2:=Lib.hid (G0.out.trans' g2);have R2:=Lib.hid (zk g2 X0.out);have T2:=Lib.hid (HT.out.grown G2.out);clear g2))
 obtain ⟨x0,x1,x2,x3,x4,x5,x6,x7,x8,x9,x10,x11⟩:=qc R2.out
 rw [HK.out]at x0
 clear X0 G0 HT h1
 have q0:=vU
 have zn4:=qz hx.n4
 go_wp2_with (first
  | (go_at_call 44;(with_reducible refine (jd hx.n4).mono ?_);rintro e w3 ⟨rfl,rfl⟩))
 go_ret
 exact ⟨rfl,G2.out⟩
theorem mI {w:World}{c:Pc} (hc:Nrm c) (hx:Tx c) (ht:kV w) (hk:c.k=16):Calls Tryz.prog 12 #[.agg c.cells.toArray] w (GrV (.string (zT c)) w):=by
 have HC:=Lib.hid hc
 have HT:=Lib.hid ht
 have hq:zT c=Qh 16 (zC c.n0) (zC c.n1) (zC c.n2) (zC c.n3) (zC c.n4) (zC c.n5) (str c.nm) (zC c.tx.length) (str (jD c.ac c.pa c.dp)):=by unfold zT;rw [hk]
 rw [hq]
 have X0:=Lib.hid (zn w (z:=c.cells.toArray) (t:=34))
 have G0:=Lib.hid (za w (.cells c.cells.toArray 34))
 have h1:1≤c.k:=by omega
 have HK:=Lib.hid hk
 have HX:=Lib.hid hx
 clear ht hq hk
 go_enter Tryz.func12,Tryz.ntmps12
 go_upto_region 3 with (first
  | (go_at_call 15;(with_reducible refine (qJ HC.out h1).mono ?_);rintro e w2 ⟨rfl,g2⟩;have G2:=Lib.hid (G0.out.trans' g2);have R2:=Lib.hid (zk g2 X0.out);have T2:=Lib.hid (HT.out.grown G2.out);clear g2))
 obtain ⟨x0,x1,x2,x3,x4,x5,x6,x7,x8,x9,x10,x11⟩:=qc R2.out
 rw [HK.out]at x0
 clear X0 G0 HT h1
 have q0:=CV
 have q2:=uz
 have zn2:=qz hx.n2
 have zn4:=qz hx.n4
 go_wp2_with fail
 go_quiet (first | (go_at_call 44;exact Calls.quiet_of_same (jd hx.n2)) | (go_at_call 44;exact Calls.quiet_of_same (jd hx.n4)))
 go_wp2_with fail
 go_ret
 exact ⟨rfl,G2.out.trans' (qf _ _)⟩
theorem mH {w:World}{c:Pc} (hc:Nrm c) (hx:Tx c) (ht:kV w) (hk:c.k=17):Calls Tryz.prog 12 #[.agg c.cells.toArray] w (GrV (.string (zT c)) w):=by
 have HC:=Lib.hid hc
 have HT:=Lib.hid ht
 have hq:zT c=Qh 17 (zC c.n0) (zC c.n1) (zC c.n2) (zC c.n3) (zC c.n4) (zC c.n5) (str c.nm) (zC c.tx.length) (str (jD c.ac c.pa c.dp)):=by unfold zT;rw [hk]
 rw [hq]
 have X0:=Lib.hid (zn w (z:=c.cells.toArray) (t:=34))
 have G0:=Lib.hid (za w (.cells c.cells.toArray 34))
 have h1:1≤c.k:=by omega
 have HK:=Lib.hid hk
 have HX:=Lib.hid hx
 clear ht hq hk
 go_enter Tryz.func12,Tryz.ntmps12
 go_upto_region 3 with (first
  | (go_at_call 15;(with_reducible refine (qJ HC.out h1).mono ?_);rintro e w2 ⟨rfl,g2⟩;have G2:=Lib.hid (G0.out.trans' g2);have R2:=Lib.hid (zk g2 X0.out);have T2:=Lib.hid (HT.out.grown G2.out);clear g2))
 obtain ⟨x0,x1,x2,x3,x4,x5,x6,x7,x8,x9,x10,x11⟩:=qc R2.out
 rw [HK.out]at x0
 clear X0 G0 HT h1
 have q0:=vS
 have q2:=uz
 have zn2:=qz hx.n2
 have zn4:=qz hx.n4
 go_wp2_with fail
 go_quiet (first | (go_at_call 44;exact Calls.quiet_of_same (jd hx.n2)) | (go_at_call 44;exact Calls.quiet_of_same (jd hx.n4)))
 go_wp2_with fail
 go_ret
 exact ⟨rfl,G2.out.trans' (qf _ _)⟩
theorem mG {w:World}{c:Pc} (hc:Nrm c) (hx:Tx c) (ht:kV w) (hk:c.k=18):Calls Tryz.prog 12 #[.agg c.cells.toArray] w (GrV (.string (zT c)) w):=by
 have HC:=Lib.hid hc
 have HT:=Lib.hid ht
 have hq:zT c=Qh 18 (zC c.n0) (zC c.n1) (zC c.n2) (zC c.n3) (zC c.n4) (zC c.n5) (str c.nm) (zC c.tx.length) (str (jD c.ac c.pa c.dp)):=by unfold zT;rw [hk]
 rw [hq]
 have X0:=Lib.hid (zn w (z:=c.cells.toArray) (t:=34))
 have G0:=Lib.hid (za w (.cells c.cells.toArray 34))
 have h1:1≤c.k:=by omega
 have HK:=Lib.hid hk
 have HX:=Lib.hid hx
 clear ht hq hk
 go_enter Tryz.func12,Tryz.ntmps12
 go_upto_region 3 with (first
  | (go_at_call 15;(with_reducible refine (qJ HC.out h1).mono ?_);rintro e w2 ⟨rfl,g2⟩;have G2:=Lib.hid (G0.out.trans' g2);have R2:=Lib.hid (zk g2 X0.out);have T2:=Lib.hid (HT.out.grown G2.out);clear g2))
 obtain ⟨x0,x1,x2,x3,x4,x5,x6,x7,x8,x9,x10,x11⟩:=qc R2.out
 rw [HK.out]at x0
 clear X0 G0 HT h1
 have q0:=vT
 have zn5:=qz hx.n5
 go_wp2_with (first
  | (go_at_call 44;(with_reducible refine (jd hx.n5).mono ?_);rintro e w3 ⟨rfl,rfl⟩))
 go_ret
 exact ⟨rfl,G2.out⟩
end MK
end
section
open Go Go.Proofs TR
namespace MK
open Go.AEv.GT (zO qq)
attribute [local go_sem ↓] Go.wp_at_zero Go.wp_at_succ
theorem zy {P:Program}{f:FuncId}{args:Array Value}{w:World}{n:Nat}{s:ByteArray} (h:Calls P f args (w.drewN n) (oy s (w.drewN n))):Calls P f args (w.drewN n) fun e w''=>e = .returned (.string s)∧∃ m,w''=w.drewN m:=Calls.quiet_of_same (h.mono fun _ _ k=>k)
theorem zA {w:World}{i:Int} (h:0≤i∧i≤99):Calls Tryz.prog 22 #[.int .i64 i] w (oy (zC i.toNat) w):=bJ 1 (by decide) (i:=i) (n:=i.toNat) (by omega) (by omega)
theorem lW {w:World}{s:ByteArray} (h:s.size≤10000):Calls Tryz.prog 22 #[.int .i64 (s.size:Nat)] w (oy (zC s.size) w):=bJ 4 (by decide) (i:=(s.size:Nat)) (n:=s.size) rfl (by omega)
theorem qE {i:Int} (h:0≤i∧i≤99):(zC i.toNat).size≤2:=qz (by omega)
theorem qS {x:Ch}{k:Nat} (hk:x.k=(k:Int)):zT (qm x)=Qh k (zC x.b.toNat) (zC x.u.toNat) (zC x.r.toNat) (zC x.o.toNat) (zC x.s.toNat) (zC x.d.toNat) x.nm (zC x.tx.size) (str (jD (sb x.ac) (sb x.pa) x.dp)):=by
 unfold zT qm
 dsimp only
 rw [Qz,kI,hk,Int.toNat_natCast]
theorem oQ {w:World}{x:Ch} (hx:x.Ok) (hp:x.k=6∨x.k=7→sb x.ac∈jg∧sb x.pa∈qx) (hk:x.k=1):Calls Tryz.prog 14 #[.agg x.cells.toArray] w (GrV (.string (zT (qm x))) w):=by
 rw [qS (k:=1) hk]
 obtain ⟨W1,hW1⟩:∃ W1,W1=w.alloc (.cells #[.int .i64 x.k,.int .i64 x.b,.int .i64 x.u,.int .i64 x.r,.int .i64 x.o,.int .i64 x.s,.int .i64 x.d,.string x.nm,.string x.tx,.string x.ac,.string x.pa,.bool x.dp] 29):=⟨_,rfl⟩
 have g1:Grown w W1:=by rw [hW1];exact za _ _
 have R1:zx Tryz.prog W1 (w.heap.size,0,0) 29 x.cells:=by rw [hW1];exact zn w
 have G1:=Lib.hid g1
 obtain ⟨x0,x1,x2,x3,x4,x5,x6,x7,x8,x9,x10,x11⟩:=qc R1
 rw [hk]at x0
 clear g1 R1
 have q0:=vX
 have znm:=hx.nm
 go_enter Tryz.func14,Tryz.ntmps14
 go_upto_region 1 with fail
 rw [← hW1]
 clear hW1
 go_quiet (first | (go_at_call 22;exact zy (zA hx.b)) | (go_at_call 22;exact zy (zA hx.u)) | (go_at_call 22;exact zy (zA hx.r)) | (go_at_call 22;exact zy (zA hx.o)) | (go_at_call 22;exact zy (zA hx.s)) | (go_at_call 22;exact zy (zA hx.d)))
 go_wp2_with fail
 go_ret
 exact ⟨rfl,G1.out.trans' (qf _ _)⟩
theorem oP {w:World}{x:Ch} (hx:x.Ok) (hp:x.k=6∨x.k=7→sb x.ac∈jg∧sb x.pa∈qx) (hk:x.k=2):Calls Tryz.prog 14 #[.agg x.cells.toArray] w (GrV (.string (zT (qm x))) w):=by
 rw [qS (k:=2) hk]
 obtain ⟨W1,hW1⟩:∃ W1,W1=w.alloc (.cells #[.int .i64 x.k,.int .i64 x.b,.int .i64 x.u,.int .i64 x.r,.int .i64 x.o,.int .i64 x.s,.int .i64 x.d,.string x.nm,.string x.tx,.string x.ac,.string x.pa,.bool x.dp] 29):=⟨_,rfl⟩
 have g1:Grown w W1:=by rw [hW1];exact za _ _
 have R1:zx Tryz.prog W1 (w.heap.size,0,0) 29 x.cells:=by rw [hW1];exact zn w
 have G1:=Lib.hid g1
 obtain ⟨x0,x1,x2,x3,x4,x5,x6,x7,x8,x9,x10,x11⟩:=qc R1
 rw [hk]at x0
 clear g1 R1
 have q0:=vY
 have znm:=hx.nm
 go_enter Tryz.func14,Tryz.ntmps14
 go_upto_region 1 with fail
 rw [← hW1]
 clear hW1
 go_quiet (first | (go_at_call 22;exact zy (zA hx.b)) | (go_at_call 22;exact zy (zA hx.u)) | (go_at_call 22;exact zy (zA hx.r)) | (go_at_call 22;exact zy (zA hx.o)) | (go_at_call 22;exact zy (zA hx.s)) | (go_at_call 22;exact zy (zA hx.d)))
 go_wp2_with fail
 go_ret
 exact ⟨rfl,G1.out.trans' (qf _ _)⟩
theorem oO {w:World}{x:Ch} (hx:x.Ok) (hp:x.k=6∨x.k=7→sb x.ac∈jg∧sb x.pa∈qx) (hk:x.k=3):Calls Tryz.prog 14 #[.agg x.cells.toArray] w (GrV (.string (zT (qm x))) w):=by
 rw [qS (k:=3) hk]
 obtain ⟨W1,hW1⟩:∃ W1,W1=w.alloc (.cells #[.int .i64 x.k,.int .i64 x.b,.int .i64 x.u,.int .i64 x.r,.int .i64 x.o,.int .i64 x.s,.int .i64 x.d,.string x.nm,.string x.tx,.string x.ac,.string x.pa,.bool x.dp] 29):=⟨_,rfl⟩
 have g1:Grown w W1:=by rw [hW1];exact za _ _
 have R1:zx Tryz.prog W1 (w.heap.size,0,0) 29 x.cells:=by rw [hW1];exact zn w
 have G1:=Lib.hid g1
 obtain ⟨x0,x1,x2,x3,x4,x5,x6,x7,x8,x9,x10,x11⟩:=qc R1
 rw [hk]at x0
 clear g1 R1
 have q0:=CU
 have znm:=hx.nm
 go_enter Tryz.func14,Tryz.ntmps14
 go_upto_region 1 with fail
 rw [← hW1]
 clear hW1
 go_quiet (first | (go_at_call 22;exact zy (zA hx.b)) | (go_at_call 22;exact zy (zA hx.u)) | (go_at_call 22;exact zy (zA hx.r)) | (go_at_call 22;exact zy (zA hx.o)) | (go_at_call 22;exact zy (zA hx.s)) | (go_at_call 22;exact zy (zA hx.d)))
 go_wp2_with fail
 go_ret
 exact ⟨rfl,G1.out.trans' (qf _ _)⟩
theorem oN {w:World}{x:Ch} (hx:x.Ok) (hp:x.k=6∨x.k=7→sb x.ac∈jg∧sb x.pa∈qx) (hk:x.k=4):Calls Tryz.prog 14 #[.agg x.cells.toArray] w (GrV (.string (zT (qm x))) w):=by
 rw [qS (k:=4) hk]
 obtain ⟨W1,hW1⟩:∃ W1,W1=w.alloc (.cells #[.int .i64 x.k,.int .i64 x.b,.int .i64 x.u,.int .i64 x.r,.int .i64 x.o,.int .i64 x.s,.int .i64 x.d,.string x.nm,.string x.tx,.string x.ac,.string x.pa,.bool x.dp] 29):=⟨_,rfl⟩
 have g1:Grown w W1:=by rw [hW1];exact za _ _
 have R1:zx Tryz.prog W1 (w.heap.size,0,0) 29 x.cells:=by rw [hW1];exact zn w
 have G1:=Lib.hid g1
 obtain ⟨x0,x1,x2,x3,x4,x5,x6,x7,x8,x9,x10,x11⟩:=qc R1
 rw [hk]at x0
 clear g1 R1
 have q0:=vP
 have q2:=CW
 have zn2:=qE hx.r
 have zn3:=qE hx.o
 go_enter Tryz.func14,Tryz.ntmps14
 go_upto_region 1 with fail
 rw [← hW1]
 clear hW1
 go_quiet (first | (go_at_call 22;exact zy (zA hx.b)) | (go_at_call 22;exact zy (zA hx.u)) | (go_at_call 22;exact zy (zA hx.r)) | (go_at_call 22;exact zy (zA hx.o)) | (go_at_call 22;exact zy (zA hx.s)) | (go_at_call 22;exact zy (zA hx.d)))
 go_wp2_with fail
 go_ret
 exact ⟨rfl,G1.out.trans' (qf _ _)⟩
theorem oM {w:World}{x:Ch} (hx:x.Ok) (hp:x.k=6∨x.k=7→sb x.ac∈jg∧sb x.pa∈qx) (hk:x.k=5):Calls Tryz.prog 14 #[.agg x.cells.toArray] w (GrV (.string (zT (qm x))) w):=by
 rw [qS (k:=5) hk]
 obtain ⟨W1,hW1⟩:∃ W1,W1=w.alloc (.cells #[.int .i64 x.k,.int .i64 x.b,.int .i64 x.u,.int .i64 x.r,.int .i64 x.o,.int .i64 x.s,.int .i64 x.d,.string x.nm,.string x.tx,.string x.ac,.string x.pa,.bool x.dp] 29):=⟨_,rfl⟩
 have g1:Grown w W1:=by rw [hW1];exact za _ _
 have R1:zx Tryz.prog W1 (w.heap.size,0,0) 29 x.cells:=by rw [hW1];exact zn w
 have G1:=Lib.hid g1
 obtain ⟨x0,x1,x2,x3,x4,x5,x6,x7,x8,x9,x10,x11⟩:=qc R1
 rw [hk]at x0
 clear g1 R1
 have q0:=vK
 have q2:=nA
 have zn2:=qE hx.r
 have zn3:=qE hx.o
 go_enter Tryz.func14,Tryz.ntmps14
 go_upto_region 1 with fail
 rw [← hW1]
 clear hW1
 go_quiet (first | (go_at_call 22;exact zy (zA hx.b)) | (go_at_call 22;exact zy (zA hx.u)) | (go_at_call 22;exact zy (zA hx.r)) | (go_at_call 22;exact zy (zA hx.o)) | (go_at_call 22;exact zy (zA hx.s)) | (go_at_call 22;exact zy (zA hx.d)))
 go_wp2_with fail
 go_ret
 exact ⟨rfl,G1.out.trans' (qf _ _)⟩
theorem oL {w:World}{x:Ch} (hx:x.Ok) (hp:x.k=6∨x.k=7→sb x.ac∈jg∧sb x.pa∈qx) (hk:x.k=6):Calls Tryz.prog 14 #[.agg x.cells.toArray] w (GrV (.string (zT (qm x))) w):=by
 rw [qS (k:=6) hk]
 obtain ⟨W1,hW1⟩:∃ W1,W1=w.alloc (.cells #[.int .i64 x.k,.int .i64 x.b,.int .i64 x.u,.int .i64 x.r,.int .i64 x.o,.int .i64 x.s,.int .i64 x.d,.string x.nm,.string x.tx,.string x.ac,.string x.pa,.bool x.dp] 29):=⟨_,rfl⟩
 have g1:Grown w W1:=by rw [hW1];exact za _ _
 have R1:zx Tryz.prog W1 (w.heap.size,0,0) 29 x.cells:=by rw [hW1];exact zn w
 have G1:=Lib.hid g1
 obtain ⟨x0,x1,x2,x3,x4,x5,x6,x7,x8,x9,x10,x11⟩:=qc R1
 rw [hk]at x0
 clear g1 R1
 have q0:=vQ
 have q2:=uC
 have zn2:=qE hx.r
 obtain ⟨pa,pp⟩:=hp (by omega)
 have zpt:=JI pa pp x.dp
 rw [← Qz x.ac]at x9
 rw [← Qz x.pa]at x10
 go_enter Tryz.func14,Tryz.ntmps14
 go_upto_region 1 with fail
 rw [← hW1]
 clear hW1
 go_quiet (first | (go_at_call 22;exact zy (zA hx.b)) | (go_at_call 22;exact zy (zA hx.u)) | (go_at_call 22;exact zy (zA hx.r)) | (go_at_call 22;exact zy (zA hx.o)) | (go_at_call 22;exact zy (zA hx.s)) | (go_at_call 22;exact zy (zA hx.d)))
 go_wp2_with (first
  | (go_at_call 46;(with_reducible refine (aY vH pa pp x.dp).mono ?_);rintro e w4 ⟨rfl,g4⟩;have G4:=Lib.hid g4;clear g4))
 go_ret
 exact ⟨rfl,G1.out.trans' ((qf _ _).trans' G4.out)⟩
theorem oK {w:World}{x:Ch} (hx:x.Ok) (hp:x.k=6∨x.k=7→sb x.ac∈jg∧sb x.pa∈qx) (hk:x.k=7):Calls Tryz.prog 14 #[.agg x.cells.toArray] w (GrV (.string (zT (qm x))) w):=by
 rw [qS (k:=7) hk]
 obtain ⟨W1,hW1⟩:∃ W1,W1=w.alloc (.cells #[.int .i64 x.k,.int .i64 x.b,.int .i64 x.u,.int .i64 x.r,.int .i64 x.o,.int .i64 x.s,.int .i64 x.d,.string x.nm,.string x.tx,.string x.ac,.string x.pa,.bool x.dp] 29):=⟨_,rfl⟩
 have g1:Grown w W1:=by rw [hW1];exact za _ _
 have R1:zx Tryz.prog W1 (w.heap.size,0,0) 29 x.cells:=by rw [hW1];exact zn w
 have G1:=Lib.hid g1
 obtain ⟨x0,x1,x2,x3,x4,x5,x6,x7,x8,x9,x10,x11⟩:=qc R1
 rw [hk]at x0
 clear g1 R1
 have q0:=vJ
 have q2:=uC
 have zn2:=qE hx.r
 obtain ⟨pa,pp⟩:=hp (by omega)
 have zpt:=JI pa pp x.dp
 rw [← Qz x.ac]at x9
 rw [← Qz x.pa]at x10
 go_enter Tryz.func14,Tryz.ntmps14
 go_upto_region 1 with fail
 rw [← hW1]
 clear hW1
 go_quiet (first | (go_at_call 22;exact zy (zA hx.b)) | (go_at_call 22;exact zy (zA hx.u)) | (go_at_call 22;exact zy (zA hx.r)) | (go_at_call 22;exact zy (zA hx.o)) | (go_at_call 22;exact zy (zA hx.s)) | (go_at_call 22;exact zy (zA hx.d)))
 go_wp2_with (first
  | (go_at_call 46;(with_reducible refine (aY vH pa pp x.dp).mono ?_);rintro e w4 ⟨rfl,g4⟩;have G4:=Lib.hid g4;clear g4))
 go_ret
 exact ⟨rfl,G1.out.trans' ((qf _ _).trans' G4.out)⟩
theorem oJ {w:World}{x:Ch} (hx:x.Ok) (hp:x.k=6∨x.k=7→sb x.ac∈jg∧sb x.pa∈qx) (hk:x.k=8):Calls Tryz.prog 14 #[.agg x.cells.toArray] w (GrV (.string (zT (qm x))) w):=by
 rw [qS (k:=8) hk]
 obtain ⟨W1,hW1⟩:∃ W1,W1=w.alloc (.cells #[.int .i64 x.k,.int .i64 x.b,.int .i64 x.u,.int .i64 x.r,.int .i64 x.o,.int .i64 x.s,.int .i64 x.d,.string x.nm,.string x.tx,.string x.ac,.string x.pa,.bool x.dp] 29):=⟨_,rfl⟩
 have g1:Grown w W1:=by rw [hW1];exact za _ _
 have R1:zx Tryz.prog W1 (w.heap.size,0,0) 29 x.cells:=by rw [hW1];exact zn w
 have G1:=Lib.hid g1
 obtain ⟨x0,x1,x2,x3,x4,x5,x6,x7,x8,x9,x10,x11⟩:=qc R1
 rw [hk]at x0
 clear g1 R1
 have q0:=vW
 have q2:=uy
 have q4:=ux
 have zn1:=qE hx.u
 have zn2:=qE hx.r
 have zn5:=qE hx.d
 go_enter Tryz.func14,Tryz.ntmps14
 go_upto_region 1 with fail
 rw [← hW1]
 clear hW1
 go_quiet (first | (go_at_call 22;exact zy (zA hx.b)) | (go_at_call 22;exact zy (zA hx.u)) | (go_at_call 22;exact zy (zA hx.r)) | (go_at_call 22;exact zy (zA hx.o)) | (go_at_call 22;exact zy (zA hx.s)) | (go_at_call 22;exact zy (zA hx.d)))
 go_wp2_with fail
 go_ret
 exact ⟨rfl,G1.out.trans' (qf _ _)⟩
theorem oI {w:World}{x:Ch} (hx:x.Ok) (hp:x.k=6∨x.k=7→sb x.ac∈jg∧sb x.pa∈qx) (hk:x.k=9):Calls Tryz.prog 14 #[.agg x.cells.toArray] w (GrV (.string (zT (qm x))) w):=by
 rw [qS (k:=9) hk]
 obtain ⟨W1,hW1⟩:∃ W1,W1=w.alloc (.cells #[.int .i64 x.k,.int .i64 x.b,.int .i64 x.u,.int .i64 x.r,.int .i64 x.o,.int .i64 x.s,.int .i64 x.d,.string x.nm,.string x.tx,.string x.ac,.string x.pa,.bool x.dp] 29):=⟨_,rfl⟩
 have g1:Grown w W1:=by rw [hW1];exact za _ _
 have R1:zx Tryz.prog W1 (w.heap.size,0,0) 29 x.cells:=by rw [hW1];exact zn w
 have G1:=Lib.hid g1
 obtain ⟨x0,x1,x2,x3,x4,x5,x6,x7,x8,x9,x10,x11⟩:=qc R1
 rw [hk]at x0
 clear g1 R1
 have q0:=vR
 have q2:=nA
 have zn1:=qE hx.u
 have zn2:=qE hx.r
 go_enter Tryz.func14,Tryz.ntmps14
 go_upto_region 1 with fail
 rw [← hW1]
 clear hW1
 go_quiet (first | (go_at_call 22;exact zy (zA hx.b)) | (go_at_call 22;exact zy (zA hx.u)) | (go_at_call 22;exact zy (zA hx.r)) | (go_at_call 22;exact zy (zA hx.o)) | (go_at_call 22;exact zy (zA hx.s)) | (go_at_call 22;exact zy (zA hx.d)))
 go_wp2_with fail
 go_ret
 exact ⟨rfl,G1.out.trans' (qf _ _)⟩
theorem mE {w:World}{x:Ch} (hx:x.Ok) (hp:x.k=6∨x.k=7→sb x.ac∈jg∧sb x.pa∈qx) (hk:x.k=10):Calls Tryz.prog 14 #[.agg x.cells.toArray] w (GrV (.string (zT (qm x))) w):=by
 rw [qS (k:=10) hk]
 obtain ⟨W1,hW1⟩:∃ W1,W1=w.alloc (.cells #[.int .i64 x.k,.int .i64 x.b,.int .i64 x.u,.int .i64 x.r,.int .i64 x.o,.int .i64 x.s,.int .i64 x.d,.string x.nm,.string x.tx,.string x.ac,.string x.pa,.bool x.dp] 29):=⟨_,rfl⟩
 have g1:Grown w W1:=by rw [hW1];exact za _ _
 have R1:zx Tryz.prog W1 (w.heap.size,0,0) 29 x.cells:=by rw [hW1];exact zn w
 have G1:=Lib.hid g1
 obtain ⟨x0,x1,x2,x3,x4,x5,x6,x7,x8,x9,x10,x11⟩:=qc R1
 rw [hk]at x0
 clear g1 R1
 have q0:=vL
 have q2:=uA
 have htx:=hx.tx
 have zln:=Vl htx
 go_enter Tryz.func14,Tryz.ntmps14
 go_upto_region 1 with fail
 rw [← hW1]
 clear hW1
 go_quiet (first | (go_at_call 22;exact zy (zA hx.b)) | (go_at_call 22;exact zy (zA hx.u)) | (go_at_call 22;exact zy (zA hx.r)) | (go_at_call 22;exact zy (zA hx.o)) | (go_at_call 22;exact zy (zA hx.s)) | (go_at_call 22;exact zy (zA hx.d)))
 go_wp2_with (first
  | (go_at_call 22;(with_reducible refine (lW htx).mono ?_);rintro e w4 ⟨rfl,rfl⟩))
 go_ret
 exact ⟨rfl,G1.out.trans' (qf _ _)⟩
theorem mD {w:World}{x:Ch} (hx:x.Ok) (hp:x.k=6∨x.k=7→sb x.ac∈jg∧sb x.pa∈qx) (hk:x.k=11):Calls Tryz.prog 14 #[.agg x.cells.toArray] w (GrV (.string (zT (qm x))) w):=by
 rw [qS (k:=11) hk]
 obtain ⟨W1,hW1⟩:∃ W1,W1=w.alloc (.cells #[.int .i64 x.k,.int .i64 x.b,.int .i64 x.u,.int .i64 x.r,.int .i64 x.o,.int .i64 x.s,.int .i64 x.d,.string x.nm,.string x.tx,.string x.ac,.string x.pa,.bool x.dp] 29):=⟨_,rfl⟩
 have g1:Grown w W1:=by rw [hW1];exact za _ _
 have R1:zx Tryz.prog W1 (w.heap.size,0,0) 29 x.cells:=by rw [hW1];exact zn w
 have G1:=Lib.hid g1
 obtain ⟨x0,x1,x2,x3,x4,x5,x6,x7,x8,x9,x10,x11⟩:=qc R1
 rw [hk]at x0
 clear g1 R1
 have q0:=vM
 have q2:=uA
 have htx:=hx.tx
 have zln:=Vl htx
 go_enter Tryz.func14,Tryz.ntmps14
 go_upto_region 1 with fail
 rw [← hW1]
 clear hW1
 go_quiet (first | (go_at_call 22;exact zy (zA hx.b)) | (go_at_call 22;exact zy (zA hx.u)) | (go_at_call 22;exact zy (zA hx.r)) | (go_at_call 22;exact zy (zA hx.o)) | (go_at_call 22;exact zy (zA hx.s)) | (go_at_call 22;exact zy (zA hx.d)))
 go_wp2_with (first
  | (go_at_call 22;(with_reducible refine (lW htx).mono ?_);rintro e w4 ⟨rfl,rfl⟩))
 go_ret
 exact ⟨rfl,G1.out.trans' (qf _ _)⟩
theorem mC {w:World}{x:Ch} (hx:x.Ok) (hp:x.k=6∨x.k=7→sb x.ac∈jg∧sb x.pa∈qx) (hk:x.k=12):Calls Tryz.prog 14 #[.agg x.cells.toArray] w (GrV (.string (zT (qm x))) w):=by
 rw [qS (k:=12) hk]
 obtain ⟨W1,hW1⟩:∃ W1,W1=w.alloc (.cells #[.int .i64 x.k,.int .i64 x.b,.int .i64 x.u,.int .i64 x.r,.int .i64 x.o,.int .i64 x.s,.int .i64 x.d,.string x.nm,.string x.tx,.string x.ac,.string x.pa,.bool x.dp] 29):=⟨_,rfl⟩
 have g1:Grown w W1:=by rw [hW1];exact za _ _
 have R1:zx Tryz.prog W1 (w.heap.size,0,0) 29 x.cells:=by rw [hW1];exact zn w
 have G1:=Lib.hid g1
 obtain ⟨x0,x1,x2,x3,x4,x5,x6,x7,x8,x9,x10,x11⟩:=qc R1
 rw [hk]at x0
 clear g1 R1
 have q0:=vV
 have q2:=uy
 have q4:=uB
 have q6:=ux
 have zn2:=qE hx.r
 have zn1:=qE hx.u
 have zn0:=qE hx.b
 have zn5:=qE hx.d
 go_enter Tryz.func14,Tryz.ntmps14
 go_upto_region 1 with fail
 rw [← hW1]
 clear hW1
 go_quiet (first | (go_at_call 22;exact zy (zA hx.b)) | (go_at_call 22;exact zy (zA hx.u)) | (go_at_call 22;exact zy (zA hx.r)) | (go_at_call 22;exact zy (zA hx.o)) | (go_at_call 22;exact zy (zA hx.s)) | (go_at_call 22;exact zy (zA hx.d)))
 go_wp2_with fail
 go_ret
 exact ⟨rfl,G1.out.trans' (qf _ _)⟩
theorem mB {w:World}{x:Ch} (hx:x.Ok) (hp:x.k=6∨x.k=7→sb x.ac∈jg∧sb x.pa∈qx) (hk:x.k=13):Calls Tryz.prog 14 #[.agg x.cells.toArray] w (GrV (.string (zT (qm x))) w):=by
 rw [qS (k:=13) hk]
 obtain ⟨W1,hW1⟩:∃ W1,W1=w.alloc (.cells #[.int .i64 x.k,.int .i64 x.b,.int .i64 x.u,.int .i64 x.r,.int .i64 x.o,.int .i64 x.s,.int .i64 x.d,.string x.nm,.string x.tx,.string x.ac,.string x.pa,.bool x.dp] 29):=⟨_,rfl⟩
 have g1:Grown w W1:=by rw [hW1];exact za _ _
 have R1:zx Tryz.prog W1 (w.heap.size,0,0) 29 x.cells:=by rw [hW1];exact zn w
 have G1:=Lib.hid g1
 obtain ⟨x0,x1,x2,x3,x4,x5,x6,x7,x8,x9,x10,x11⟩:=qc R1
 rw [hk]at x0
 clear g1 R1
 have q0:=vN
 have q2:=nA
 have q4:=uB
 have zn2:=qE hx.r
 have zn1:=qE hx.u
 have zn0:=qE hx.b
 go_enter Tryz.func14,Tryz.ntmps14
 go_upto_region 1 with fail
 rw [← hW1]
 clear hW1
 go_quiet (first | (go_at_call 22;exact zy (zA hx.b)) | (go_at_call 22;exact zy (zA hx.u)) | (go_at_call 22;exact zy (zA hx.r)) | (go_at_call 22;exact zy (zA hx.o)) | (go_at_call 22;exact zy (zA hx.s)) | (go_at_call 22;exact zy (zA hx.d)))
 go_wp2_with fail
 go_ret
 exact ⟨rfl,G1.out.trans' (qf _ _)⟩
theorem mA {w:World}{x:Ch} (hx:x.Ok) (hp:x.k=6∨x.k=7→sb x.ac∈jg∧sb x.pa∈qx) (hk:x.k=14):Calls Tryz.prog 14 #[.agg x.cells.toArray] w (GrV (.string (zT (qm x))) w):=by
 rw [qS (k:=14) hk]
 obtain ⟨W1,hW1⟩:∃ W1,W1=w.alloc (.cells #[.int .i64 x.k,.int .i64 x.b,.int .i64 x.u,.int .i64 x.r,.int .i64 x.o,.int .i64 x.s,.int .i64 x.d,.string x.nm,.string x.tx,.string x.ac,.string x.pa,.bool x.dp] 29):=⟨_,rfl⟩
 have g1:Grown w W1:=by rw [hW1];exact za _ _
 have R1:zx Tryz.prog W1 (w.heap.size,0,0) 29 x.cells:=by rw [hW1];exact zn w
 have G1:=Lib.hid g1
 obtain ⟨x0,x1,x2,x3,x4,x5,x6,x7,x8,x9,x10,x11⟩:=qc R1
 rw [hk]at x0
 clear g1 R1
 have q0:=vO
 have zn1:=qE hx.u
 go_enter Tryz.func14,Tryz.ntmps14
 go_upto_region 1 with fail
 rw [← hW1]
 clear hW1
 go_quiet (first | (go_at_call 22;exact zy (zA hx.b)) | (go_at_call 22;exact zy (zA hx.u)) | (go_at_call 22;exact zy (zA hx.r)) | (go_at_call 22;exact zy (zA hx.o)) | (go_at_call 22;exact zy (zA hx.s)) | (go_at_call 22;exact zy (zA hx.d)))
 go_wp2_with fail
 go_ret
 exact ⟨rfl,G1.out.trans' (qf _ _)⟩
theorem mz {w:World}{x:Ch} (hx:x.Ok) (hp:x.k=6∨x.k=7→sb x.ac∈jg∧sb x.pa∈qx) (hk:x.k=15):Calls Tryz.prog 14 #[.agg x.cells.toArray] w (GrV (.string (zT (qm x))) w):=by
 rw [qS (k:=15) hk]
 obtain ⟨W1,hW1⟩:∃ W1,W1=w.alloc (.cells #[.int .i64 x.k,.int .i64 x.b,.int .i64 x.u,.int .i64 x.r,.int .i64 x.o,.int .i64 x.s,.int .i64 x.d,.string x.nm,.string x.tx,.string x.ac,.string x.pa,.bool x.dp] 29):=⟨_,rfl⟩
 have g1:Grown w W1:=by rw [hW1];exact za _ _
 have R1:zx Tryz.prog W1 (w.heap.size,0,0) 29 x.cells:=by rw [hW1];exact zn w
 have G1:=Lib.hid g1
 obtain ⟨x0,x1,x2,x3,x4,x5,x6,x7,x8,x9,x10,x11⟩:=qc R1
 rw [hk]at x0
 clear g1 R1
 have q0:=vU
 have zn4:=qE hx.s
 go_enter Tryz.func14,Tryz.ntmps14
 go_upto_region 1 with fail
 rw [← hW1]
 clear hW1
 go_quiet (first | (go_at_call 22;exact zy (zA hx.b)) | (go_at_call 22;exact zy (zA hx.u)) | (go_at_call 22;exact zy (zA hx.r)) | (go_at_call 22;exact zy (zA hx.o)) | (go_at_call 22;exact zy (zA hx.s)) | (go_at_call 22;exact zy (zA hx.d)))
 go_wp2_with fail
 go_ret
 exact ⟨rfl,G1.out.trans' (qf _ _)⟩
theorem my {w:World}{x:Ch} (hx:x.Ok) (hp:x.k=6∨x.k=7→sb x.ac∈jg∧sb x.pa∈qx) (hk:x.k=16):Calls Tryz.prog 14 #[.agg x.cells.toArray] w (GrV (.string (zT (qm x))) w):=by
 rw [qS (k:=16) hk]
 obtain ⟨W1,hW1⟩:∃ W1,W1=w.alloc (.cells #[.int .i64 x.k,.int .i64 x.b,.int .i64 x.u,.int .i64 x.r,.int .i64 x.o,.int .i64 x.s,.int .i64 x.d,.string x.nm,.string x.tx,.string x.ac,.string x.pa,.bool x.dp] 29):=⟨_,rfl⟩
 have g1:Grown w W1:=by rw [hW1];exact za _ _
 have R1:zx Tryz.prog W1 (w.heap.size,0,0) 29 x.cells:=by rw [hW1];exact zn w
 have G1:=Lib.hid g1
 obtain ⟨x0,x1,x2,x3,x4,x5,x6,x7,x8,x9,x10,x11⟩:=qc R1
 rw [hk]at x0
 clear g1 R1
 have q0:=CV
 have q2:=uz
 have zn2:=qE hx.r
 have zn4:=qE hx.s
 go_enter Tryz.func14,Tryz.ntmps14
 go_upto_region 1 with fail
 rw [← hW1]
 clear hW1
 go_quiet (first | (go_at_call 22;exact zy (zA hx.b)) | (go_at_call 22;exact zy (zA hx.u)) | (go_at_call 22;exact zy (zA hx.r)) | (go_at_call 22;exact zy (zA hx.o)) | (go_at_call 22;exact zy (zA hx.s)) | (go_at_call 22;exact zy (zA hx.d)))
 go_wp2_with fail
 go_ret
 exact ⟨rfl,G1.out.trans' (qf _ _)⟩
theorem mw {w:World}{x:Ch} (hx:x.Ok) (hp:x.k=6∨x.k=7→sb x.ac∈jg∧sb x.pa∈qx) (hk:x.k=17):Calls Tryz.prog 14 #[.agg x.cells.toArray] w (GrV (.string (zT (qm x))) w):=by
 rw [qS (k:=17) hk]
 obtain ⟨W1,hW1⟩:∃ W1,W1=w.alloc (.cells #[.int .i64 x.k,.int .i64 x.b,.int .i64 x.u,.int .i64 x.r,.int .i64 x.o,.int .i64 x.s,.int .i64 x.d,.string x.nm,.string x.tx,.string x.ac,.string x.pa,.bool x.dp] 29):=⟨_,rfl⟩
 have g1:Grown w W1:=by rw [hW1];exact za _ _
 have R1:zx Tryz.prog W1 (w.heap.size,0,0) 29 x.cells:=by rw [hW1];exact zn w
 have G1:=Lib.hid g1
 obtain ⟨x0,x1,x2,x3,x4,x5,x6,x7,x8,x9,x10,x11⟩:=qc R1
 rw [hk]at x0
 clear g1 R1
 have q0:=vS
 have q2:=uz
 have zn2:=qE hx.r
 have zn4:=qE hx.s
 go_enter Tryz.func14,Tryz.ntmps14
 go_upto_region 1 with fail
 rw [← hW1]
 clear hW1
 go_quiet (first | (go_at_call 22;exact zy (zA hx.b)) | (go_at_call 22;exact zy (zA hx.u)) | (go_at_call 22;exact zy (zA hx.r)) | (go_at_call 22;exact zy (zA hx.o)) | (go_at_call 22;exact zy (zA hx.s)) | (go_at_call 22;exact zy (zA hx.d)))
 go_wp2_with fail
 go_ret
 exact ⟨rfl,G1.out.trans' (qf _ _)⟩
theorem mv {w:World}{x:Ch} (hx:x.Ok) (hp:x.k=6∨x.k=7→sb x.ac∈jg∧sb x.pa∈qx) (hk:x.k=18):Calls Tryz.prog 14 #[.agg x.cells.toArray] w (GrV (.string (zT (qm x))) w):=by
 rw [qS (k:=18) hk]
 obtain ⟨W1,hW1⟩:∃ W1,W1=w.alloc (.cells #[.int .i64 x.k,.int .i64 x.b,.int .i64 x.u,.int .i64 x.r,.int .i64 x.o,.int .i64 x.s,.int .i64 x.d,.string x.nm,.string x.tx,.string x.ac,.string x.pa,.bool x.dp] 29):=⟨_,rfl⟩
 have g1:Grown w W1:=by rw [hW1];exact za _ _
 have R1:zx Tryz.prog W1 (w.heap.size,0,0) 29 x.cells:=by rw [hW1];exact zn w
 have G1:=Lib.hid g1
 obtain ⟨x0,x1,x2,x3,x4,x5,x6,x7,x8,x9,x10,x11⟩:=qc R1
 rw [hk]at x0
 clear g1 R1
 have q0:=vT
 have zn5:=qE hx.d
 go_enter Tryz.func14,Tryz.ntmps14
 go_upto_region 1 with fail
 rw [← hW1]
 clear hW1
 go_quiet (first | (go_at_call 22;exact zy (zA hx.b)) | (go_at_call 22;exact zy (zA hx.u)) | (go_at_call 22;exact zy (zA hx.r)) | (go_at_call 22;exact zy (zA hx.o)) | (go_at_call 22;exact zy (zA hx.s)) | (go_at_call 22;exact zy (zA hx.d)))
 go_wp2_with fail
 go_ret
 exact ⟨rfl,G1.out.trans' (qf _ _)⟩
end MK
end
end Go.AEv
