/- Changes, their encodings and texts: calls and runs (H10x0). Conditions: those of each theorem. -/
import Derived.Test.YtmlimgmmpjhifaaGreatDoorL10a
set_option maxRecDepth 100000
set_option maxHeartbeats 8000000
set_option linter.all false
namespace Go.AEv
section
open Go Go.Proofs TR
open Go.AuditPlain (put zw qg)
namespace MK
def L5 (w wx:World) (p1 p2:Option Addr) (n1 n2:Nat) (M1 M2:List Nat):Prop:=Grown w wx∧ByL wx p1 n1 M1∧ByL wx p2 n2 M2
theorem sZ {w:World}{p:Option Addr}{n:Nat}{L:List Nat} (h:ByL w p n L):RD.In w p L:=⟨h.lt,fun hn=>by
 obtain ⟨b',o,e,hc⟩:=h.cs (fun e=>hn (List.map_eq_nil_iff.1 e))
 exact ⟨b',o,e,fun i x hx=>hc i _ (by rw [List.getElem?_map,hx];rfl)⟩⟩
theorem BH (x:Pc):enc x≠[]:=by
 intro h
 have:(enc x).length=0:=by rw [h];rfl
 unfold enc at this
 simp only [List.length_append]at this
 have h0:∀ j,(put x.k).length≤(qj x j).length:=by
  intro j
  induction j with
  | zero=>exact Nat.le_refl _
  | succ j ih=>show _≤(qj x j++_).length;rw [List.length_append];omega
 have:=h0 6
 have h1:1≤(put x.k).length:=by unfold put;rw [List.length_append];show 1≤_+1;omega
 omega
theorem fh {w w2:World} (h:ow w) (g:Grown w w2):ow w2:=by
 obtain ⟨β,h1,h2⟩:=h
 letI:=unkU
 exact ⟨β,h1,fun p hp=>zZ.qA (h2 p hp) g.old⟩
end MK
end
section
open Go Go.Proofs TR
open Go.AuditPlain (put zw qg)
section
noncomputable section
def gP (k:Nat):Bool:=zt (kB EU (Wg EU 1000) 36 [.int .i64 (.ofNat k)] (kH EU 300)) false fun p=>qs p.1 (useA k)
def DD:Bool:=List.rec true (fun k _ ih=>ifB (gP (k+1)) ih false) (List.range 18)
theorem usesV_run:DD=true:=by kernel_rfl
end
theorem usesV_all:∀ (l:List Nat),(List.rec true (fun k _ ih=>ifB (gP (k+1)) ih false) l:Bool)=true→∀ k∈l,gP (k+1)=true
 | [],_,k,m=>by cases m
 | a::l,h,k,m=>by
  have h:ifB (gP (a+1)) (List.rec true (fun k _ ih=>ifB (gP (k+1)) ih false) l) false=true:=h
  rw [zu]at h
  split at h
  ·rename_i ha
   rcases List.mem_cons.1 m with rfl | m
   ·exact ha
   ·exact usesV_all l h k m
  ·cases h
theorem usesV_ok {k:Nat} (hk:k<18):gP (k+1)=true:=usesV_all _ usesV_run k (List.mem_range.2 hk)
theorem uses36_n {w:World}{k:Nat} (hk:k<18):Calls Tryz.prog 36 #[.int .i64 ((k+1:Nat):Int)] w fun e w2=>e = .returned (.agg #[.bool (useB (k+1) 0),.bool (useB (k+1) 1),.bool (useB (k+1) 2),.bool (useB (k+1) 3),.bool (useB (k+1) 4),.bool (useB (k+1) 5),.bool (useB (k+1) 6),.bool (useB (k+1) 7),.bool (useB (k+1) 8)])∧Grown w w2:=by
 letI:=unkU
 have h:=usesV_ok hk
 unfold gP at h
 cases hr:kB EU (Wg EU 1000) 36 [.int .i64 (.ofNat (k+1))] (kH EU 300) with
 | none=>rw [hr]at h;cases h
 | some p=>
  rw [hr,zg]at h
  have hv:=zX _ _ h
  have hF:Fit EU:=bD YR bm (fun p hp=>by cases hp)
  have:=ya (E:=EU) (N:=300) hF (by decide) (VT (val:=fun _=>.int .u8 0)) (fun f hf=>by cases hf) rfl (r:=p.1) (H':=p.2) hr ⟨trivial,trivial⟩ (w:=w) VN
  refine Calls.mono (show Calls Tryz.prog 36 #[.int .i64 ((k+1:Nat):Int)] w _ from this) fun e w2 hx=>?_
  obtain ⟨hg,γ,rfl,_⟩:=hx
  rw [hv]
  exact ⟨rfl,hg⟩
end
namespace MK
open Go.AEv.GT (zO qq)
attribute [local go_sem ↓] Go.wp_at_zero Go.wp_at_succ
def ZH (k:Nat) (e0 e1 e2 e3 e4 e5 e6 e7 e8:Bool):Prop:=e0=useB k 0∧e1=useB k 1∧e2=useB k 2∧e3=useB k 3∧e4=useB k 4∧e5=useB k 5∧e6=useB k 6∧e7=useB k 7∧e8=useB k 8
def DS (k:Nat) (w:World) (e:Ending) (w2:World):Prop:=∃ b0 b1 b2 b3 b4 b5 b6 b7 b8:Bool,e = .returned (.agg #[.bool b0,.bool b1,.bool b2,.bool b3,.bool b4,.bool b5,.bool b6,.bool b7,.bool b8])∧Grown w w2∧ZH k b0 b1 b2 b3 b4 b5 b6 b7 b8
theorem uses36_e {w:World}{k:Int} (h1:1≤k) (h2:k≤18):Calls Tryz.prog 36 #[.int .i64 k] w (DS k.toNat w):=by
 obtain ⟨n,rfl⟩:∃ n:Nat,k=((n+1:Nat):Int):=⟨(k-1).toNat,by omega⟩
 refine (uses36_n (k:=n) (by omega)).mono ?_
 rintro e w2 ⟨rfl,g⟩
 exact ⟨_,_,_,_,_,_,_,_,_,rfl,g,rfl,rfl,rfl,rfl,rfl,rfl,rfl,rfl,rfl⟩
def qm (x:Ch):Pc:=⟨x.k.toNat,x.b.toNat,x.u.toNat,x.r.toNat,x.o.toNat,x.s.toNat,x.d.toNat,sb x.nm,sb x.tx,sb x.ac,sb x.pa,x.dp⟩
theorem wZ {k:Nat}{e0 e1 e2 e3 e4 e5 e6 e7 e8:Bool} (h:ZH k e0 e1 e2 e3 e4 e5 e6 e7 e8) {j:Nat} (hj:j<6):∃ bb:Bool,([.bool e0,.bool e1,.bool e2,.bool e3,.bool e4,.bool e5]:List Value)[j]? = some (.bool bb)∧bb=useB k j:=by
 obtain ⟨h0,h1,h2,h3,h4,h5,_⟩:=h
 have:j=0∨j=1∨j=2∨j=3∨j=4∨j=5:=by omega
 rcases this with rfl | rfl | rfl | rfl | rfl | rfl
 ·exact ⟨_,rfl,h0⟩
 ·exact ⟨_,rfl,h1⟩
 ·exact ⟨_,rfl,h2⟩
 ·exact ⟨_,rfl,h3⟩
 ·exact ⟨_,rfl,h4⟩
 ·exact ⟨_,rfl,h5⟩
theorem wY {x:Ch} (h:x.Ok) {j:Nat} (hj:j<6):∃ n:Nat,([.int .i64 x.b,.int .i64 x.u,.int .i64 x.r,.int .i64 x.o,.int .i64 x.s,.int .i64 x.d]:List Value)[j]? = some (.int .i64 (n:Nat))∧n≤99∧nth (qm x) j=n:=by
 have:j=0∨j=1∨j=2∨j=3∨j=4∨j=5:=by omega
 have e:∀ i:Int,0≤i∧i≤99→some (Value.int .i64 i)=some (.int .i64 (i.toNat:Nat))∧i.toNat≤99:=fun i hi=>⟨by rw [Int.toNat_of_nonneg hi.1],by omega⟩
 rcases this with rfl | rfl | rfl | rfl | rfl | rfl
 ·exact ⟨_,(e _ h.b).1,(e _ h.b).2,rfl⟩
 ·exact ⟨_,(e _ h.u).1,(e _ h.u).2,rfl⟩
 ·exact ⟨_,(e _ h.r).1,(e _ h.r).2,rfl⟩
 ·exact ⟨_,(e _ h.o).1,(e _ h.o).2,rfl⟩
 ·exact ⟨_,(e _ h.s).1,(e _ h.s).2,rfl⟩
 ·exact ⟨_,(e _ h.d).1,(e _ h.d).2,rfl⟩
theorem wW {w0 w1:World}{v:Value}{M:List Nat} (_:Bs w0 w1 v M) {w:World}{s:ByteArray} (hs:s.size≤10000):Calls Tryz.prog 38 #[.string s] w (BsE (zw (sb s)) w):=Vf hs
theorem gG {x:Ch}{e0 e1 e2 e3 e4 e5 e6 e7 e8:Bool}{L5 La Lc:List Nat} (he:ZH x.k.toNat e0 e1 e2 e3 e4 e5 e6 e7 e8) (h5:L5=qj (qm x) 6) (ha:La=L5++seg e6 (zw (sb x.nm))) (hc:Lc=La++seg e7 (zw (sb x.tx))):enc (qm x)=Lc++seg e8 (zw (sb x.ac)++zw (sb x.pa)++qg x.dp):=by
 obtain ⟨_,_,_,_,_,_,h6,h7,h8⟩:=he
 rw [hc,ha,h5,h6,h7,h8]
 rfl
def QE (M:List Nat) (w:World) (x:Ch) (b3:Nat) (e0 e1 e2 e3 e4 e5 e6 e7 e8:Bool) (K:Nat) (v:Value) (wx:World):Prop:=∃ (p:Option Addr) (c:Nat) (L:List Nat),v = .slice p L.length c∧YSt w wx x b3 e0 e1 e2 e3 e4 e5 e6 e7 e8∧Bs w wx (.slice p L.length c) L∧1≤L.length∧L.length≤K∧L=M
theorem QE.app {w w7:World}{x:Ch}{b3 K K2:Nat}{e0 e1 e2 e3 e4 e5 e6 e7 e8:Bool}{v:Value}{L M:List Nat} (hb:Bs w w7 v (L++M)) (hy:YSt w w7 x b3 e0 e1 e2 e3 e4 e5 e6 e7 e8) (h1:1≤L.length) (hL:L.length≤K) (hM:M.length≤K2) (few:K+K2≤100000):QE (L++M) w x b3 e0 e1 e2 e3 e4 e5 e6 e7 e8 (K+K2) v w7:=by
 have hl:(L++M).length=L.length+M.length:=List.length_append
 obtain ⟨p,c,rfl,_⟩:=hb.byL (by omega)
 exact ⟨p,c,L++M,rfl,hy,hb,by omega,by omega,rfl⟩
def YE (w:World) (x:Ch) (b3 bB bI:Nat) (e0 e1 e2 e3 e4 e5 e6 e7 e8:Bool) (g:Nat) (v i:Value) (wx:World):Prop:=∃ (j:Nat) (p:Option Addr) (c:Nat) (L:List Nat),j+g=6∧i = .int .i64 j∧v = .slice p L.length c∧YSt w wx x b3 e0 e1 e2 e3 e4 e5 e6 e7 e8∧zx Tryz.prog wx (bB,0,0) 4 [.bool e0,.bool e1,.bool e2,.bool e3,.bool e4,.bool e5]∧zx Tryz.prog wx (bI,0,0) 3 [.int .i64 x.b,.int .i64 x.u,.int .i64 x.r,.int .i64 x.o,.int .i64 x.s,.int .i64 x.d]∧Bs w wx (.slice p L.length c) L∧1≤L.length∧L.length≤5+5*j∧L=qj (qm x) j
theorem au {w:World}{x:Ch} (hx:x.Ok):Calls Tryz.prog 8 #[.agg x.cells.toArray] w (BsE (enc (qm x)) w):=by
 have HX:=Lib.hid hx
 have hk0:=hx.k0
 have hk1:=hx.k1
 clear hx
 go_enter Tryz.func8,Tryz.ntmps8
 go_wp2_with (first
  | (go_at_call 36;(with_reducible refine (uses36_e hk0 hk1).mono ?_);rintro e w2 ⟨e0,e1,e2,e3,e4,e5,e6,e7,e8,rfl,g2,he⟩;have HE:=Lib.hid he;clear he;have Y2:RowKit.Hid (YSt w (w2.alloc (.cells #[.bool e0,.bool e1,.bool e2,.bool e3,.bool e4,.bool e5,.bool e6,.bool e7,.bool e8] 85)) x w2.heap.size e0 e1 e2 e3 e4 e5 e6 e7 e8):=Lib.hid ⟨((za _ _).trans' g2).trans' (za _ _),zk (g2.trans' (za _ _)) (zn w),zn w2⟩;have c0:=(zc (k:=0) Y2.out.a rfl).1;clear g2)
  | (go_at_call 37;(with_reducible refine (bg (i:=x.k) (n:=x.k.toNat) (by omega) (by omega)).mono ?_);rintro e w4 ⟨p4,c4,rfl,hb⟩;have h41:=V0 x.k.toNat;have h45:=YN (n:=x.k.toNat) (by omega);have Y4:=Lib.hid (Y2.out.grown hb.g);have B4:=Lib.hid (hb.before Y2.out.g);clear hb c0;obtain ⟨f0,f1,f2,f3,f4,f5,f6,f7,f8⟩:=Ff Y4.out.f;obtain ⟨c0,c1,c2,c3,c4',c5,c6,c7,c8,c9,c10,c11⟩:=qc Y4.out.a;have d0:=fun ob=>RD.ze c0 (za w4 ob);have d1:=fun ob=>RD.ze c1 (za w4 ob);have d2:=fun ob=>RD.ze c2 (za w4 ob);have d3:=fun ob=>RD.ze c3 (za w4 ob);have d4:=fun ob=>RD.ze c4' (za w4 ob);have d5:=fun ob=>RD.ze c5 (za w4 ob);have d6:=fun ob=>RD.ze c6 (za w4 ob)))
 go_loopg [4,41] 6 (fun g v i wx=>YE w x w2.heap.size w4.heap.size (w4.heap.size+1) e0 e1 e2 e3 e4 e5 e6 e7 e8 g v i wx)
 case atStart=>exact ⟨0,p4,c4,put x.k.toNat,rfl,rfl,rfl,Y4.out.grown ((za _ _).trans' (za _ _)),zk (za _ _) (zn w4),jS (by rw [zQ]),B4.out.grown ((za _ _).trans' (za _ _)),h41,h45,rfl⟩
 case round=>
  obtain ⟨j,p5,c5',L5,hj,rfl,rfl,hy,hbr,hir,hbs,hl1,hl2,hLe⟩:=hrel
  have HLE:=Lib.hid hLe
  clear hLe
  have Y5:=Lib.hid hy
  have BR:=Lib.hid hbr
  have IR:=Lib.hid hir
  have B5:=Lib.hid hbs
  clear hy hbr hir hbs
  cases gk with
  | succ g=>
   have hj6:(j:Int)<6:=by omega
   obtain ⟨bb,hbb,hbu⟩:=wZ HE.out (j:=j) (by omega)
   have HBU:=Lib.hid hbu
   clear hbu
   obtain ⟨nn,hnn,hn1000,hnu⟩:=wY HX.out (j:=j) (by omega)
   have HNU:=Lib.hid hnu
   clear hnu
   have n61:=V0 nn
   have n65:=YN (n:=nn) (by omega)
   have xb:=(zc BR.out hbb).1
   have xi:=(zc IR.out hnn).1
   have few:RowKit.Hid (L5.length+5≤100000):=Lib.hid (by omega)
   clear hbb hnn
   cases bb with
   | true=>
    go_wp2_with (first
     | (go_at_call 37;(with_reducible refine (bg (i:=(nn:Int)) (n:=nn) rfl (by omega)).mono ?_);rintro e w6 ⟨p6,c6,rfl,hb⟩;have Y6:=Lib.hid (Y5.out.grown hb.g);have BR6:=Lib.hid (zk hb.g BR.out);have IR6:=Lib.hid (zk hb.g IR.out);have O6:=Lib.hid (B5.out.grown hb.g);obtain ⟨_,_,e6,hm6,_⟩:=hb.byL (by omega);cases e6;have M6:=Lib.hid hm6;clear hb hm6)
     | (at_builtin;refine yU _ _ rfl rfl O6.out M6.out (by have:=few.out;omega) rfl ?_;intro v' w7 k1 k2;have Y7:=Lib.hid (Y6.out.wrote k2 O6.out);have BR7:=Lib.hid (qO BR6.out k2 O6.out.row (by decide));have IR7:=Lib.hid (qO IR6.out k2 O6.out.row (by decide));have B7:=Lib.hid k1;clear k1 k2))
    obtain ⟨p7,c7,e7,_,_⟩:=B7.out.byL (by rw [List.length_append];have:=few.out;omega)
    subst e7
    go_roundg g
    case measure=>omega
    case rel=>exact ⟨j+1,p7,c7,L5++put nn,by omega,rfl,rfl,Y7.out,BR7.out,IR7.out,B7.out,by rw [List.length_append];omega,by rw [List.length_append];omega,by rw [HLE.out];show _=qj (qm x) j++seg (useB x.k.toNat j) (put (nth (qm x) j));rw [qX HBU.out.symm,HNU.out]⟩
   | false=>
    go_wp2_with fail
    go_roundg g
    case measure=>omega
    case rel=>exact ⟨j+1,p5,c5',L5,by omega,rfl,rfl,Y5.out,BR.out,IR.out,B5.out,hl1,by omega,by rw [HLE.out];show _=qj (qm x) j++seg (useB x.k.toNat j) (put (nth (qm x) j));rw [jl HBU.out.symm,List.append_nil]⟩
  | zero=>
   have hj6:¬ (j:Int)<6:=by omega
   have hl35:L5.length≤35:=by omega
   obtain rfl:j=6:=by omega
   clear BR IR
   have f0:=(zc (k:=0) Y5.out.f rfl).1
   have f6:=(zc (k:=6) Y5.out.f rfl).1
   go_upto_if 56 with fail
   go_cut [4] from 6 to 90 (fun s4 wx=>QE (L5++seg e6 (zw (sb x.nm))) w x w2.heap.size e0 e1 e2 e3 e4 e5 e6 e7 e8 (35+25) s4 wx)
   case first=>
    have c0:=(zc (k:=0) Y5.out.a rfl).1
    have c7:=(zc (k:=7) Y5.out.a rfl).1
    have hz:=HX.out.nm
    cases e6 with
    | true=>
     go_wp2_with (first
      | (go_at_call 38;(with_reducible refine (Vf (s:=x.nm) (by omega)).mono ?_);rintro e w6 ⟨p6,c6,rfl,hb⟩;obtain ⟨h61,h65⟩:=Zx (s:=x.nm) (by omega);have Y6:=Lib.hid (Y5.out.grown hb.g);have O6:=Lib.hid (B5.out.grown hb.g);obtain ⟨_,_,e6,hm6,_⟩:=hb.byL (by omega);cases e6;have M6:=Lib.hid hm6;clear hb hm6)
      | (at_builtin;refine yU _ _ rfl rfl O6.out M6.out (by omega) rfl ?_;intro v' w7 k1 k2;have Y7:=Lib.hid (Y6.out.wrote k2 O6.out);have B7:=Lib.hid k1;clear k1 k2))
     go_meet
     case rel=>exact QE.app B7.out Y7.out hl1 hl35 (by rw [qX rfl];omega) (by decide)
    | false=>
     go_wp2_with fail
     go_meet
     case rel=>exact ⟨p5,c5',L5,rfl,Y5.out,B5.out,hl1,by omega,by rw [jl rfl,List.append_nil]⟩
   case rest=>
    obtain ⟨pa,ca,La,rfl,hy,hbs,ha1,ha2,hLa⟩:=hcut
    have HLA:=Lib.hid hLa
    clear hLa
    have YA:=Lib.hid hy
    have BA:=Lib.hid hbs
    clear hy hbs Y5 B5 f0 f6
    have f0:=(zc (k:=0) YA.out.f rfl).1
    have f7:=(zc (k:=7) YA.out.f rfl).1
    go_upto_if 63 with fail
    go_cut [4] from 6 to 90 (fun s4 wx=>QE (La++seg e7 (zw (sb x.tx))) w x w2.heap.size e0 e1 e2 e3 e4 e5 e6 e7 e8 (60+10005) s4 wx)
    case first=>
     have c0:=(zc (k:=0) YA.out.a rfl).1
     have c8:=(zc (k:=8) YA.out.a rfl).1
     have hz:=HX.out.tx
     cases e7 with
     | true=>
      go_wp2_with (first
       | (go_at_call 38;(with_reducible refine (Vf (s:=x.tx) (by omega)).mono ?_);rintro e w6 ⟨p6,c6,rfl,hb⟩;obtain ⟨h61,h65⟩:=Zx (s:=x.tx) (by omega);have Y6:=Lib.hid (YA.out.grown hb.g);have O6:=Lib.hid (BA.out.grown hb.g);obtain ⟨_,_,e6,hm6,_⟩:=hb.byL (by omega);cases e6;have M6:=Lib.hid hm6;clear hb hm6)
       | (at_builtin;refine yU _ _ rfl rfl O6.out M6.out (by omega) rfl ?_;intro v' w7 k1 k2;have Y7:=Lib.hid (Y6.out.wrote k2 O6.out);have B7:=Lib.hid k1;clear k1 k2))
      go_meet
      case rel=>exact QE.app B7.out Y7.out ha1 ha2 (by rw [qX rfl];omega) (by decide)
     | false=>
      go_wp2_with fail
      go_meet
      case rel=>exact ⟨pa,ca,La,rfl,YA.out,BA.out,ha1,by omega,by rw [jl rfl,List.append_nil]⟩
    case rest=>
     obtain ⟨pc,cc,Lc,rfl,hy,hbs,hc1,hc2,hLc⟩:=hcut
     have HLC:=Lib.hid hLc
     clear hLc
     have YC:=Lib.hid hy
     have BC:=Lib.hid hbs
     clear hy hbs YA BA f0 f7
     have f0:=(zc (k:=0) YC.out.f rfl).1
     have f8:=(zc (k:=8) YC.out.f rfl).1
     cases e8 with
     | false=>
      go_wp2_with fail
      go_ret
      have k2:=BC.out
      rw [gG HE.out HLE.out HLA.out HLC.out,jl rfl,List.append_nil]
      exact bsE k2 (by omega)
     | true=>
      have c0:=(zc (k:=0) YC.out.a rfl).1
      have c9:=(zc (k:=9) YC.out.a rfl).1
      have c10:=(zc (k:=10) YC.out.a rfl).1
      have hz1:=HX.out.ac
      have hz2:=HX.out.pa
      go_wp2_with fail
      have HCC:RowKit.Hid (∀ wx,zx Tryz.prog wx (w.heap.size,0,0) 29 x.cells→wx.cell? ⟨w.heap.size,0,none⟩=some (.int .i64 x.k)∧wx.cell? ⟨w.heap.size,9,none⟩=some (.string x.ac)∧wx.cell? ⟨w.heap.size,10,none⟩=some (.string x.pa)):=Lib.hid (fun wx h=>⟨(zc (k:=0) h rfl).1,(zc (k:=9) h rfl).1,(zc (k:=10) h rfl).1⟩)
      have YD:=Lib.hid (YC.out.grown (zp _))
      have BD:=Lib.hid (BC.out.grown (zp _))
      go_region_held3 (fun wx=>wx.cell? ⟨w.heap.size,0,none⟩=some (.int .i64 x.k)∧wx.cell? ⟨w.heap.size,9,none⟩=some (.string x.ac)∧wx.cell? ⟨w.heap.size,10,none⟩=some (.string x.pa))
       (first | with_reducible exact ⟨c0,c9,c10⟩ | with_reducible exact HCC.out _ YD.out.a | with_reducible exact HCC.out _ Y6.out.a | with_reducible exact HCC.out _ Y7.out.a | with_reducible exact HCC.out _ Y8.out.a | with_reducible exact HCC.out _ Y9.out.a)
       (first
        | (go_at_call 38;(with_reducible refine (Vf (s:=x.ac) (w:=World.drew _) (by omega)).mono ?_);rintro e w6 ⟨p6,c6,rfl,hb⟩;obtain ⟨h61,h65⟩:=Zx (s:=x.ac) (by omega);have Y6:=Lib.hid (YD.out.grown hb.g);have O6:=Lib.hid (BD.out.grown hb.g);obtain ⟨_,_,e6,hm6,_⟩:=hb.byL (by omega);cases e6;have M6:=Lib.hid hm6;clear hb hm6)
        | (refine Ux (.tmp 71) (.tmp 75) (by rfl) (by rfl) O6.out M6.out (by omega) (by rfl) (by rfl) ?_;intro v7 w7 k1 k2;have Y7:=Lib.hid (Y6.out.wrote k2 O6.out);obtain ⟨p7,c7,e7,_,_⟩:=k1.byL (by rw [List.length_append];omega);rw [show (Lc++zw (sb x.ac)).length=Lc.length+(zw (sb x.ac)).length from List.length_append]at e7;subst e7;have B7:=Lib.hid k1;clear k1 k2)
        | (go_at_call 38;(with_reducible refine (wW B7.out (s:=x.pa) (by omega)).mono ?_);rintro e w8 ⟨p8,c8,rfl,hb⟩;obtain ⟨h81,h85⟩:=Zx (s:=x.pa) (by omega);have Y8:=Lib.hid (Y7.out.grown hb.g);have O8:=Lib.hid (B7.out.grown hb.g);obtain ⟨_,_,e8,hm8,_⟩:=hb.byL (by omega);cases e8;have M8:=Lib.hid hm8;clear hb hm8)
        | (refine Ux (.tmp 76) (.tmp 80) (by rfl) (by rfl) O8.out M8.out (by rw [List.length_append];omega) (by rfl) (by rfl) ?_;intro v9 w9 k1 k2;have Y9:=Lib.hid (Y8.out.wrote k2 O8.out);obtain ⟨p9,c9',e9,_,_⟩:=k1.byL (by rw [List.length_append,List.length_append];omega);rw [show (Lc++zw (sb x.ac)++zw (sb x.pa)).length=Lc.length+(zw (sb x.ac)).length+(zw (sb x.pa)).length by rw [List.length_append,List.length_append]]at e9;subst e9;have B9:=Lib.hid k1;clear k1 k2))
      all_goals (
       dsimp only [Exit.then]
       have c0':=(zc (k:=0) Y9.out.a rfl).1
       have c9'':=(zc (k:=9) Y9.out.a rfl).1
       have c11:=(zc (k:=11) Y9.out.a rfl).1
       have hl9:(Lc++zw (sb x.ac)++zw (sb x.pa)).length=Lc.length+(zw (sb x.ac)).length+(zw (sb x.pa)).length:=by rw [List.length_append,List.length_append]
       cases hdp:x.dp with
       | true=>
        rw [hdp]at c11
        go_wp2_with (first
         | (at_builtin;refine yU _ _ rfl rfl (B9.out.grown (za _ _)) (Vw (y:=1) (by decide) rfl) (by omega) rfl ?_;intro v' wz k1 _;have KZ:=Lib.hid k1;clear k1))
        go_ret
        have k2:=KZ.out
        rw [gG HE.out HLE.out HLA.out HLC.out,qX rfl,← List.append_assoc,← List.append_assoc,hdp]
        exact bsE k2 (by rw [List.length_append];show _+1≤_;omega)
       | false=>
        rw [hdp]at c11
        go_wp2_with (first
         | (at_builtin;refine yU _ _ rfl rfl (B9.out.grown (za _ _)) (Vw (y:=0) (by decide) rfl) (by omega) rfl ?_;intro v' wz k1 _;have KZ:=Lib.hid k1;clear k1))
        go_ret
        have k2:=KZ.out
        rw [gG HE.out HLE.out HLA.out HLC.out,qX rfl,← List.append_assoc,← List.append_assoc,hdp]
        exact bsE k2 (by rw [List.length_append];show _+1≤_;omega))
end MK
end
end Go.AEv
