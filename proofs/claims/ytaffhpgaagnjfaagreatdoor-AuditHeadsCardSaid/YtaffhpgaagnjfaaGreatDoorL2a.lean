/- Trails of an audit: contracts of the calls, and runs of the evaluator (part L2a). Conditions: those of each theorem. -/
import Derived.Test.YtaffhpgaagnjfaaGreatDoorH1x0
import Derived.Test.YtaffhpgaagnjfaaGreatDoorL1b
import Derived.Test.YtaffhpgaagnjfaaGreatDoorEvSe
import Derived.ProofKit
import Derived.Deep.Slices
import Derived.LaidMore
import Derived.Lay
namespace Go.AEv
open Go Go.Proofs TR
def WQ (w0:World) (e:Ending) (w2:World):Prop:=∃ (a:Addr) (q:Option Addr) (c:Nat) (es fs:List Ent),fs.length≤8∧fs.length≤c∧e = .returned (.tuple #[.pointer (some a),.slice q fs.length c])∧St (own w0) w0 w2 (.pointer (some a)) (.slice q fs.length c) es fs
theorem zqU {w0:World}{e:Ending}{w2:World} (h:zor w0 e w2):WQ w0 e w2:=by
 obtain ⟨t,want,es,fs,rfl,H,hl⟩:=h
 obtain ⟨⟨x,hd,r,rfl,_⟩,_⟩:=id H.tr
 by_cases hf:fs=[]
 ·obtain rfl:=H.rows.1 hf
  subst hf
  exact ⟨_,none,0,es,[],hl,Nat.le_refl _,rfl,H⟩
 ·obtain ⟨y,rfl,_⟩:=H.rows.2 hf
  exact ⟨_,_,_,es,fs,hl,Nat.le_add_right _ _,rfl,H⟩
def zeX (w0:World) (v:Value):Prop:=v = .slice none 0 0∨∃ (p:Addr) (n c:Nat),v = .slice (some p) n c∧n≤c∧∀ j,j<n→∃ x,zox w0 p j x
theorem zoA {w0 w:World}{v:Value} (gw:Grown w0 w) (hk:JS w0) (h0:XO w0) (hv:zeX w0 v):Calls Tryz.prog 7 #[v,.slice none 0 0] w (WQ w0):=by
 rcases hv with rfl | ⟨p,n,c,rfl,hnc,hit⟩
 ·exact (zkq w0 w gw gw.size hk).mono fun _ _ h=>zqU h
 ·exact (zg4 p n c (min n 8) w0 w gw gw.size (by omega) (by omega) (by omega) hnc hk h0 hit).mono fun _ _ h=>zqU h
theorem Vy {B:Nat→Prop}{w0 w:World}{t:Value}{q:Option Addr}{c:Nat}{es fs:List Ent} (H:St B w0 w t (.slice q fs.length c) es fs) (j:Nat) (hj:j≤fs.length):RH.Part (.slice q fs.length c) (.slice q j c) fs.length j:=by
 refine ⟨fun h=>?_,fun _=>⟨q,c,rfl,rfl⟩⟩
 have hf:=List.eq_nil_of_length_eq_zero h
 have:=H.rows.1 hf
 subst hf
 cases this
 have:j=0:=by simpa using hj
 rw [this]
end Go.AEv
namespace Go.Proofs.YtaffhpgaagnjfaaGreatDoor
open Go.ChangeShapes Go.WideShapes Go.ChangeAt Go.RowKit
open Go.AEv (tabs XO Sl4 Jf)
theorem c5:Tryz.prog.cellsOf 5=1:=by kernel_rfl
theorem c3:Tryz.prog.cellsOf 3=1:=by kernel_rfl
theorem c4:Tryz.prog.cellsOf 4=1:=by kernel_rfl
theorem zwA:Tryz.prog.cellsOf 106=1:=by kernel_rfl
theorem kj {l:List Value}{j:Nat}{v:Value} (h:(l.drop j).take 1=[v]):l[j]? = some v:=by
 have:=congrArg (fun m=>m[0]?) h
 simpa using this
theorem u8_nat {n:Int} (w:(Lit.int .u8 n).wf=true):∃ m:Nat,n=m∧m<256:=by
 have h1:IntKind.u8.min=0:=rfl
 have h2:IntKind.u8.max=255:=rfl
 simp only [Lit.wf,Bool.and_eq_true,decide_eq_true_eq,h1,h2]at w
 exact ⟨n.toNat,by omega,by omega⟩
theorem ziA {p:Nat→Nat→Prop}{n:Nat} (h:∀ i,i<n→∃ b,p i b):∃ B:Nat→Nat,∀ i,i<n→p i (B i):=by
 exact ⟨fun i=>if hi:i<n then (h i hi).choose else 0,fun i hi=>by show p i (if hi:i<n then (h i hi).choose else 0);rw [dif_pos hi];exact (h i hi).choose_spec⟩
section
variable {H:Type}{enc:TypeId×Value→H}{W:World}
theorem zjF {n:Nat}{cs:List Value}{x:DataW H×List MemPlace}{t:TypeId} (ht:Tryz.prog.underlying t=some (.slice 5)) (h:DataW.trod enc Tryz.prog W 0 (fun _=>true) true n t cs=some x):∃ s:Sl4,s.Ok∧s.In W∧cs=[s.val]:=by
 rcases Go.Deep.open_slice1 ht c5 h with ⟨rfl,_⟩ | ⟨a,len,cap,m,k,V,D,Pl,rfl,_,hle,_,hm,_,hx⟩
 ·refine ⟨⟨none,0,0,[]⟩,⟨rfl,Nat.le_refl _,(fun b hb=>absurd hb (by intro h;cases h)),fun h=>absurd rfl h⟩,(fun b o hb _=>absurd hb (by intro h;cases h)),rfl⟩
 ·have hm:m=cap:=hm
  subst hm
  have hB:∀ i,i<m→∃ b:Nat,W.cell? (a.add i)=some (.int .u8 (b:Nat))∧b<256:=by
   intro i hi
   obtain ⟨h1,h2⟩:=hx i hi
   obtain ⟨z,e,_,wz⟩:=DataW.trod_int Tryz.underlying5 h2
   obtain ⟨b,rfl,hb⟩:=u8_nat wz
   refine ⟨b,?_,hb⟩
   rw [h1]
   exact congrArg some (List.singleton_inj.1 e)
  obtain ⟨B,hB⟩:=ziA hB
  have hget:∀ i x,((List.range (min len 4)).map B)[i]? = some x→i<len∧x=B i:=by
   intro i x hx
   rw [List.getElem?_map]at hx
   obtain ⟨j,hj,rfl⟩:=Option.map_eq_some_iff.1 hx
   have hi:=(List.getElem?_eq_some_iff.1 hj).1
   rw [List.length_range]at hi
   rw [List.getElem?_range hi]at hj
   cases hj
   exact ⟨by omega,rfl⟩
  have hspot:0<len→a.spot=none:=by
   intro h0
   obtain ⟨h1,_⟩:=hB 0 (by omega)
   have h1:W.cell? a=some (.int .u8 (B 0:Nat)):=by
    have e:a.add 0=a:=by unfold Addr.add;simp
    rwa [e]at h1
   unfold World.cell? at h1
   split at h1
   ·split at h1
    ·cases h1
    ·rename_i hs
     cases ha:a.spot with
     | none=>rfl
     | some z=>rw [ha]at hs;exact absurd rfl hs
   ·cases h1
  refine ⟨⟨some a,len,m,(List.range (min len 4)).map B⟩,⟨by simp,hle,?_,?_⟩,?_,rfl⟩
  ·intro b hb
   obtain ⟨i,hi⟩:=List.getElem?_of_mem hb
   obtain ⟨h1,rfl⟩:=hget i b hi
   exact (hB i (by omega)).2
  ·intro hne
   have h0:0<len:=by
    rcases Nat.eq_zero_or_pos len with h | h
    ·subst h;exact absurd rfl hne
    ·exact h
   refine ⟨a.block,a.off,?_⟩
   show some a=_
   rw [← hspot h0]
  ·intro b o hb hne
   have hb:some a=some ⟨b,o,none⟩:=hb
   cases hb
   have h0:0<len:=by
    rcases Nat.eq_zero_or_pos len with h | h
    ·subst h;exact absurd rfl hne
    ·exact h
   have key:∀ i,i<len→W.cell? ⟨b,o+i,none⟩=some (.int .u8 (B i:Nat)):=by
    intro i hi
    have h1:=(hB i (by omega)).1
    have e:Addr.add ⟨b,o,none⟩ i=⟨b,o+i,none⟩:=by unfold Addr.add;by_cases h:i=0<;>simp [h]
    rwa [e]at h1
   have k0:=key 0 h0
   unfold World.cell? at k0
   split at k0
   ·rename_i arr t fz hh
    refine ⟨arr,t,fz,hh,fun i x hx=>?_⟩
    obtain ⟨h1,rfl⟩:=hget i x hx
    have:=key i h1
    unfold World.cell? at this
    rw [hh]at this
    exact this
   ·cases k0
theorem QB {n:Nat}{cs:List Value}{x:DataW H×List MemPlace} (h:DataW.trod enc Tryz.prog W 0 (fun _=>true) true n 5 (cs.take (Tryz.prog.cellsOf 5))=some x):∃ b:Nat,b<256∧cs.take 1=[.int .u8 (b:Nat)]:=by
 rw [c5]at h
 obtain ⟨z,e,_,wz⟩:=DataW.trod_int Tryz.underlying5 h
 obtain ⟨b,rfl,hb⟩:=u8_nat wz
 exact ⟨b,hb,e⟩
theorem zd7 {n:Nat}{cs:List Value}{x:DataW H×List MemPlace} (h:DataW.trod enc Tryz.prog W 0 (fun _=>true) true n 4 (cs.take (Tryz.prog.cellsOf 4))=some x):∃ b:Bool,cs.take 1=[.bool b]:=by
 rw [c4]at h
 obtain ⟨b,e,_⟩:=DataW.trod_bool Tryz.underlying4 h
 exact ⟨b,e⟩
theorem Z8 {l:List Value}{i j n:Nat}{v:Value} (hj:j<n) (h:(((l.drop i).take n).drop j).take 1=[v]):l[i+j]? = some v:=by
 have:=kj h
 rw [List.getElem?_take,if_pos hj,List.getElem?_drop]at this
 exact this
set_option maxRecDepth 100000 in
theorem zhQ {fuel:Nat}{cs:Array Value}{x:DataW H×List MemPlace} (hf:DataW.trod enc Tryz.prog W 0 (fun _=>true) true fuel 80 cs.toList=some x) :
  ∃ x:Jf,(∀ m,1≤m→m≤8→Jf.Ok { x with num:=m })∧x.u.In W∧x.d.In W∧cs.toList=x.Qu:=by
 obtain ⟨xs,n,_,_,hlen,hx,hfl⟩:=DataW.trod_struct Tryz.underlying80 hf
 have k80:Tryz.prog.cellsOf 80=14:=by kernel_rfl
 have k76:Tryz.prog.cellsOf 76=3:=by kernel_rfl
 have k78:Tryz.prog.cellsOf 78=5:=by kernel_rfl
 rw [k80]at hlen
 have hx8:xs.length=8:=hx
 have at_:∀ i,i<8→∃ y,xs[i]? = some y:=fun i hi=>⟨_,List.getElem?_eq_getElem (by omega)⟩
 obtain ⟨y0,z0⟩:=at_ 0 (by decide)
 obtain ⟨y1,z1⟩:=at_ 1 (by decide)
 obtain ⟨y2,z2⟩:=at_ 2 (by decide)
 obtain ⟨y3,z3⟩:=at_ 3 (by decide)
 obtain ⟨y4,z4⟩:=at_ 4 (by decide)
 obtain ⟨y5,z5⟩:=at_ 5 (by decide)
 obtain ⟨y6,z6⟩:=at_ 6 (by decide)
 obtain ⟨y7,z7⟩:=at_ 7 (by decide)
 obtain ⟨a0,b0,e0⟩:=QB ((hfl 0 _ rfl).trans z0)
 obtain ⟨a1,b1,e1⟩:=QB ((hfl 1 _ rfl).trans z1)
 obtain ⟨a2,b2,e2⟩:=QB ((hfl 2 _ rfl).trans z2)
 obtain ⟨a3,b3,e3⟩:=QB ((hfl 3 _ rfl).trans z3)
 obtain ⟨a7,e7⟩:=zd7 ((hfl 5 _ rfl).trans z5)
 obtain ⟨a8,e8⟩:=zd7 ((hfl 6 _ rfl).trans z6)
 have f4:DataW.trod enc Tryz.prog W 0 (fun _=>true) true n 76 ((cs.toList.drop 4).take (Tryz.prog.cellsOf 76))=some y4:=(hfl 4 _ rfl).trans z4
 have f7:DataW.trod enc Tryz.prog W 0 (fun _=>true) true n 78 ((cs.toList.drop 9).take (Tryz.prog.cellsOf 78))=some y7:=(hfl 7 _ rfl).trans z7
 obtain ⟨xa,na,rfl,_,_,hxa,hfa⟩:=DataW.trod_struct Tryz.underlying76 f4
 have hxa3:xa.length=3:=hxa
 have ata:∀ i,i<3→∃ y,xa[i]? = some y:=fun i hi=>⟨_,List.getElem?_eq_getElem (by omega)⟩
 obtain ⟨ya0,za0⟩:=ata 0 (by decide)
 obtain ⟨ya1,za1⟩:=ata 1 (by decide)
 obtain ⟨ya2,za2⟩:=ata 2 (by decide)
 obtain ⟨a4,b4,e4⟩:=QB ((hfa 0 _ rfl).trans za0)
 obtain ⟨a5,b5,e5⟩:=QB ((hfa 1 _ rfl).trans za1)
 obtain ⟨a6,b6,e6⟩:=QB ((hfa 2 _ rfl).trans za2)
 obtain ⟨xc,nc,hnc,_,_,hxc,hfc⟩:=DataW.trod_struct Tryz.underlying78 f7
 have hxc5:xc.length=5:=hxc
 have atc:∀ i,i<5→∃ y,xc[i]? = some y:=fun i hi=>⟨_,List.getElem?_eq_getElem (by omega)⟩
 obtain ⟨yc0,zc0⟩:=atc 0 (by decide)
 obtain ⟨yc1,zc1⟩:=atc 1 (by decide)
 obtain ⟨yc2,zc2⟩:=atc 2 (by decide)
 obtain ⟨yc3,zc3⟩:=atc 3 (by decide)
 obtain ⟨yc4,zc4⟩:=atc 4 (by decide)
 obtain ⟨a9,b9,e9⟩:=QB ((hfc 0 _ rfl).trans zc0)
 obtain ⟨a10,b10,e10⟩:=QB ((hfc 1 _ rfl).trans zc1)
 obtain ⟨s11,o11,i11,e11⟩:=zjF (by first | exact Tryz.underlying51 | rfl) ((hfc 2 _ rfl).trans zc2)
 obtain ⟨s12,o12,i12,e12⟩:=zjF (by first | exact Tryz.underlying51 | rfl) ((hfc 3 _ rfl).trans zc3)
 obtain ⟨a13,e13⟩:=zd7 ((hfc 4 _ rfl).trans zc4)
 have k51:Tryz.prog.cellsOf 51=1:=by kernel_rfl
 rw [k76]at e4 e5 e6
 rw [k78]at e9 e10 e11 e12 e13
 have e11:(((cs.toList.drop 9).take 5).drop 2).take 1=[s11.val]:=by first | exact e11 | (rw [← k51];exact e11)
 have e12:(((cs.toList.drop 9).take 5).drop 3).take 1=[s12.val]:=by first | exact e12 | (rw [← k51];exact e12)
 refine ⟨⟨a0,a1,a2,a3,a4,a5,a6,a7,a8,a9,a10,s11,s12,a13,1⟩,fun m h1 h2=>⟨⟨h1,h2⟩,b0,b1,b2,b3,b4,b5,b6,b9,b10,o11,o12⟩,i11,i12,?_⟩
 apply List.ext_getElem?
 intro j
 match j with
 | 0=>exact kj e0
 | 1=>exact kj e1
 | 2=>exact kj e2
 | 3=>exact kj e3
 | 4=>exact Z8 (i:=4) (j:=0) (by decide) e4
 | 5=>exact Z8 (i:=4) (j:=1) (by decide) e5
 | 6=>exact Z8 (i:=4) (j:=2) (by decide) e6
 | 7=>exact kj e7
 | 8=>exact kj e8
 | 9=>exact Z8 (i:=9) (j:=0) (by decide) e9
 | 10=>exact Z8 (i:=9) (j:=1) (by decide) e10
 | 11=>exact Z8 (i:=9) (j:=2) (by decide) e11
 | 12=>exact Z8 (i:=9) (j:=3) (by decide) e12
 | 13=>exact Z8 (i:=9) (j:=4) (by decide) e13
 | n+14=>rw [List.getElem?_eq_none (by omega)];rfl
set_option maxRecDepth 100000 in
theorem zhP {base:Nat}{v:Value}{d:DataW H}{ps:List MemPlace} (hv:Value.okWide Tryz.prog W .any base 22 v) (h:DataW.Trod enc Tryz.prog W 0 (fun _=>true) true 22 v d ps):Go.AEv.zeX W v:=by
 obtain ⟨ao,len,cap,rfl⟩:=okWide_slice Tryz.underlying22 hv
 obtain ⟨fuel,hf⟩:=h
 have hf:DataW.trod enc Tryz.prog W 0 (fun _=>true) true fuel 22 [.slice ao len cap]=some (d,ps):=hf
 have k80:Tryz.prog.cellsOf 80=14:=by kernel_rfl
 rcases Go.Deep.open_slice Tryz.underlying22 hf with ⟨h0,_⟩ | ⟨a,len',cap',m,n,D,Pl,h0,_,hle,_,hm,_,hx⟩
 ·cases h0
  exact .inl rfl
 ·cases h0
  have hm:m=cap:=hm
  subst hm
  refine .inr ⟨a,len,m,rfl,hle,fun j hj=>?_⟩
  obtain ⟨cs',h1,h2⟩:=hx j (by omega)
  rw [k80]at h1
  obtain ⟨_,hlen,hcell⟩:=World.cells?_some h1
  obtain ⟨x,ox,xu,xd,hc⟩:=zhQ (cs:=cs'.toArray) (by rw [List.toList_toArray];exact h2)
  rw [List.toList_toArray]at hc
  subst hc
  have hspot:(a.add (j*14)).spot=none:=by
   have h0:=hcell 0 (by omega)
   have e:(a.add (j*14)).add 0=a.add (j*14):=by unfold Addr.add;simp
   rw [e]at h0
   unfold World.cell? at h0
   split at h0
   ·split at h0
    ·cases h0
    ·rename_i hs
     cases ha:(a.add (j*14)).spot with
     | none=>rfl
     | some z=>rw [ha]at hs;exact absurd rfl hs
   ·cases h0
  refine ⟨x,ox,xu,xd,?_⟩
  generalize hp:a.add (j*14)=p at hcell hspot
  obtain ⟨pb,po,ps⟩:=p
  have hspot:ps=none:=hspot
  subst hspot
  have key:∀ i v,x.Qu[i]? = some v→i<14→W.cell? ⟨pb,po+i,none⟩=some v:=by
   intro i v hv hi
   have:=hcell i hi
   rw [hv,Addr.add_lit]at this
   exact this
  unfold Go.AEv.zeY
  rw [hp]
  exact ⟨key 0 _ rfl (by decide),key 1 _ rfl (by decide),key 2 _ rfl (by decide),key 3 _ rfl (by decide),key 4 _ rfl (by decide),key 5 _ rfl (by decide),key 6 _ rfl (by decide),key 7 _ rfl (by decide),key 8 _ rfl (by decide),key 9 _ rfl (by decide),key 10 _ rfl (by decide),key 11 _ rfl (by decide),key 12 _ rfl (by decide),key 13 _ rfl (by decide)⟩
end
theorem zdK {W:World} (h:XO W):Go.AEv.JS W:=by
 letI:=AEv.unk0
 obtain ⟨β,h1,h3⟩:=h
 refine AEv.zdL ⟨β,h1,fun p hp=>h3 p ?_⟩
 simp only [AEv.KP.tabs,List.mem_cons,List.mem_nil_iff,or_false]at hp
 rcases hp with rfl | rfl
 ·exact List.mem_cons_self
 ·exact List.mem_cons_of_mem _ List.mem_cons_self
end Go.Proofs.YtaffhpgaagnjfaaGreatDoor
