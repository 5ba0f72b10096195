/- Changes, their encodings and texts: calls and runs (H11x0). Conditions: those of each theorem. -/
import Derived.Test.YtmlimgmmpjhifaaGreatDoorL11a
set_option maxHeartbeats 8000000
set_option maxRecDepth 100000
set_option linter.all false
namespace Go.AEv
section
open Go Go.Proofs TR
namespace MK
open Go.AEv.GT (zO qq)
open RD (qe)
theorem rD {w:World}{k0 k1 k2 k3 k4 k5:Nat}{p:Option Addr}{n c:Nat}{L:List Nat} (hB:ByL w p n L) (hcap:n≤c) (h0:k0<256) (h1:k1<256) (h2:k2<256) (h3:k3<256) (h4:k4<256) (h5:k5<256):Calls Tryz.prog 6 #[.agg #[.int .u8 (k0:Nat),.int .u8 (k1:Nat),.int .u8 (k2:Nat),.int .u8 (k3:Nat),.int .u8 (k4:Nat),.int .u8 (k5:Nat),.slice p n c]] w (ChN w):=by
 have HB:=Lib.hid hB
 have st:=rz (w:=w) (k0:=k0) (k1:=k1) (k2:=k2) (k3:=k3) (k4:=k4) (k5:=k5) (p:=p) (n:=n) (c:=c)
 have ST:=Lib.hid st
 clear hB st
 go_enter Tryz.func6,Tryz.ntmps6
 go_upto_if 46 with (first
  | (go_at_call 21;(with_reducible refine (mn h4).mono ?_);rintro e w2 ⟨s2,rfl,z2,g2⟩;have S2:=Lib.hid (ST.out.grown g2);clear g2;obtain ⟨a0,a1,a2,a3,a4,a5,a6⟩:=aP S2.out.a;obtain ⟨x0,x1,x2,x3,x4,x5,x6,x7,x8,x9,x10,x11⟩:=qc S2.out.xr;obtain ⟨y0,y1,y2,y3,y4,y5,y6,y7,y8,y9,y10,y11⟩:=pE S2.out.xr))
 obtain ⟨W3,hW3⟩:∃ W3,W3=w2.setCell ⟨w.heap.size+1+1,7,none⟩ (.string s2):=⟨_,rfl⟩
 have s3:=S2.out.fy (s:=s2) (by omega)
 rw [← hW3]at s3
 rw [← hW3]
 have S3:=Lib.hid s3
 clear s3 hW3 a0 a1 a2 a3 a4 a5 a6 x0 x1 x2 x3 x4 x5 x6 x7 x8 x9 x10 x11 y0 y1 y2 y3 y4 y5 y6 y7 y8 y9 y10 y11
 go_cut [] from 4 to 98 (fun wx=>∃ x:Ch,MSt w wx k0 k1 k2 k3 k4 k5 p n c x)
 case first=>
  have a0:=(zc (k:=0) S3.out.a rfl).1
  have a4:=(zc (k:=4) S3.out.a rfl).1
  have x0:=(zc (k:=0) S3.out.xr rfl).1
  obtain ⟨x7,y7⟩:=zc (k:=7) S3.out.xr rfl
  by_cases h128:128≤k4
  ·have h128':(128:Int)≤k4:=by omega
   have s110:(⟨#[110]⟩:ByteArray).size=1:=rfl
   go_wp2_with (first
    | (go_at_call 22;(with_reducible refine (KF 2 (by decide) (i:=(k4:Int)) (n:=k4) rfl (Nat.lt_of_lt_of_le h4 (by decide))).mono ?_);rintro e w4 ⟨t4,rfl,z4,rfl⟩))
   go_meet
   case rel=>exact ⟨_,S3.out.fy (by rw [ByteArray.size_append,s110];omega)⟩
  ·have h128':¬ (128:Int)≤k4:=by omega
   go_wp2_with fail
   go_meet
   case rel=>exact ⟨_,S3.out⟩
 case rest=>
  obtain ⟨xa,hst⟩:=hcut
  have S4:=Lib.hid hst
  clear hst S3 S2 ST
  have a0:=(zc (k:=0) S4.out.a rfl).1
  have a4:=(zc (k:=4) S4.out.a rfl).1
  go_upto_if 59 with (first
   | (go_at_call 23;(with_reducible refine (xz h4).mono ?_);rintro e w5 ⟨pa,pp,pd,rfl,z5,z6,hpm5,g5⟩;have HPM:=Lib.hid hpm5;clear hpm5;have S5:=Lib.hid (S4.out.grown g5);clear g5 a0 a4;obtain ⟨x0,x1,x2,x3,x4,x5,x6,x7,x8,x9,x10,x11⟩:=qc S5.out.xr;obtain ⟨y0,y1,y2,y3,y4,y5,y6,y7,y8,y9,y10,y11⟩:=pE S5.out.xr))
  obtain ⟨W6,hW6⟩:∃ W6,W6=((w5.setCell ⟨w.heap.size+1+1,9,none⟩ (.string pa)).setCell ⟨w.heap.size+1+1,10,none⟩ (.string pp)).setCell ⟨w.heap.size+1+1,11,none⟩ (.bool pd):=⟨_,rfl⟩
  have s6:=S5.out.mU (a:=pa) (b:=pp) (d:=pd) z5 z6
  rw [← hW6]at s6
  rw [← hW6]
  obtain ⟨xb,hxb⟩:∃ xb:Ch,xb={ xa with ac:=pa,pa:=pp,dp:=pd }:=⟨_,rfl⟩
  have PM6:RowKit.Hid (Pm xb):=Lib.hid (by rw [hxb];exact HPM.out)
  have hk:xa.k=xb.k:=by rw [hxb]
  rw [← hxb]at s6
  rw [hk]
  have S6:=Lib.hid s6
  clear s6 hW6 hxb hk x0 x1 x2 x3 x4 x5 x6 x7 x8 x9 x10 x11 y0 y1 y2 y3 y4 y5 y6 y7 y8 y9 y10 y11
  go_cut [] from 4 to 98 (fun wx=>∃ x:Ch,MSt w wx k0 k1 k2 k3 k4 k5 p n c x∧Pm x)
  case first=>
   have a0:=(zc (k:=0) S6.out.a rfl).1
   have a6:=(zc (k:=6) S6.out.a rfl).1
   have x0:=(zc (k:=0) S6.out.xr rfl).1
   obtain ⟨x8,y8⟩:=zc (k:=8) S6.out.xr rfl
   by_cases h10:xb.k=10
   ·obtain ⟨nn,hnn⟩:∃ nn:Nat,nn=min n 40:=⟨_,rfl⟩
    have hmin:min (n:Int) 40=(nn:Int):=by omega
    have n0:(0:Int)≤(nn:Int):=by omega
    have n1:(nn:Int)≤n:=by omega
    have n2:(nn:Int)≤c:=by omega
    have BT:=Lib.hid (HB.out.take (m:=nn) (by omega))
    have BN:RowKit.Hid (nn≤40):=Lib.hid (by omega)
    have G25:RowKit.Hid (Grown W6 ((W6.alloc (.cells #[.int .i64 1,.int .i64 2,.int .i64 3,.int .i64 4] 3)).alloc (.cells #[.int .i64 5,.int .i64 6] 3))):=Lib.hid ((za _ _).trans' (za _ _))
    have I1:RowKit.Hid (InL ((W6.alloc (.cells #[.int .i64 1,.int .i64 2,.int .i64 3,.int .i64 4] 3)).alloc (.cells #[.int .i64 5,.int .i64 6] 3)) (some ⟨W6.heap.size,0,none⟩) 4 [1,2,3,4]):=Lib.hid (dU (w:=W6) (l:=[1,2,3,4]) (za _ _) rfl (by decide) (by decide) (by decide))
    have I2:RowKit.Hid (InL ((W6.alloc (.cells #[.int .i64 1,.int .i64 2,.int .i64 3,.int .i64 4] 3)).alloc (.cells #[.int .i64 5,.int .i64 6] 3)) (some ⟨W6.heap.size+1,0,none⟩) 2 [5,6]):=Lib.hid (dU (w:=W6.alloc (.cells #[.int .i64 1,.int .i64 2,.int .i64 3,.int .i64 4] 3)) (l:=[5,6]) (RD.zL _) (by rw [zQ]) (by decide) (by decide) (by decide))
    have BW:=Lib.hid (BT.out.grown (S6.out.g.trans' G25.out))
    subst hnn
    go_wp2_with (first
     | (go_at_call 25;(with_reducible refine (fB BW.out BN.out I1.out I2.out).mono ?_);rintro e w7 ⟨v7,rs,rfl,hrl,hrn,g7⟩;have S7:=Lib.hid (S6.out.grown (G25.out.trans' g7));obtain ⟨p7,c7,rfl,_,_,_⟩:=ju hrl.row;have RL7:=Lib.hid hrl;have RN:=Lib.hid hrn;clear g7 hrl hrn)
     | (go_at_call 26;(with_reducible refine (Ql (s:=⟨#[114]⟩) (n:=4) (i:=4) rfl (by decide) (by decide)).mono ?_);rintro e w8 ⟨v8,ss,rfl,hst,hsl,g8⟩;obtain ⟨p8,c8,rfl,_,_,_⟩:=ju hst.row;have S8:=Lib.hid (S7.out.grown g8);have RL8:=Lib.hid (RL7.out.grown g8);have OS:=Lib.hid hst.ok;have hrow:=hst.row;rw [hsl]at hrow;rw [hsl];have R8:=Lib.hid (hrow.lower S7.out.g.size);have HL8:=Lib.hid hsl;clear g8 hst hrow hsl)
     | (go_at_call 26;(with_reducible refine (Ql (s:=⟨#[97]⟩) (n:=2) (i:=2) rfl (by decide) (by decide)).mono ?_);rintro e w9 ⟨v9,st,rfl,hst,htl,g9⟩;obtain ⟨p9,c9,rfl,hs9⟩:=hst.ph (by omega);have S9:=Lib.hid (S8.out.grown g9);have RL9:=Lib.hid (RL8.out.grown g9);have R9:=Lib.hid (R8.out.grown g9);have OT:=Lib.hid hst.ok;rw [htl]at hs9;rw [htl];obtain ⟨b9,o9,rfl,_⟩:=hs9.at (j:=0) (by decide);have C9:=Lib.hid hs9.cs;have HL9:=Lib.hid htl;clear g9 hst hs9 htl)
     | (at_builtin;refine GT.Ve _ GT.tyT _ _ rfl rfl R9.out (by decide) (by decide) S9.out.g.size rfl (us:=st.map Value.string) (by rw [List.length_map,HL9.out]) (fo C9.out) pf ?_;intro v' wa k1 k2 k3;obtain ⟨qa,ca,rfl,_⟩:=k2;have SA:=Lib.hid (S9.out.wrote k3 R9.out (Nat.le_refl _));have RLA:=Lib.hid (RL9.out.wI k3 R9.out);have LA:=Lib.hid (pg k1 HL8.out HL9.out OS.out OT.out);clear k1 k3)
     | (go_at_call 24;(with_reducible refine (fI ⟨KH RLA.out.row,rfl,RN.out,RLA.out.ok⟩ LA.out).mono ?_);rintro e wb ⟨sb,rfl,zb,gb⟩;have SB:=Lib.hid (SA.out.grown gb);clear gb x8 y8;obtain ⟨x8,y8⟩:=zc (k:=8) SB.out.xr rfl;have x0b:=(zc (k:=0) SB.out.xr rfl).1))
    go_meet
    case rel=>exact ⟨_,SB.out.cW (by omega),PM6.out⟩
   ·have h10':(xb.k==10)=false:=beq_eq_false_iff_ne.2 h10
    go_wp2_with fail
    go_meet
    case rel=>exact ⟨_,S6.out,PM6.out⟩
  case rest=>
   obtain ⟨xc,hst,hpm⟩:=hcut
   have PMC:=Lib.hid hpm
   clear hpm
   have SC:=Lib.hid hst
   clear hst S6 S5 S4
   have a0:=(zc (k:=0) SC.out.a rfl).1
   have x0:=(zc (k:=0) SC.out.xr rfl).1
   go_upto_if 77 with fail
   go_cut [] from 4 to 98 (fun wx=>∃ x:Ch,MSt w wx k0 k1 k2 k3 k4 k5 p n c x∧Pm x)
   case first=>
    have a6:=(zc (k:=6) SC.out.a rfl).1
    obtain ⟨x8,y8⟩:=zc (k:=8) SC.out.xr rfl
    by_cases h11:xc.k=11
    ·have BC:=Lib.hid (HB.out.grown SC.out.g)
     go_wp2_with (first
      | (go_at_call 27;(with_reducible refine (X9 BC.out hcap).mono ?_);rintro e wb ⟨sb,rfl,zb,gb⟩;have SB:=Lib.hid (SC.out.grown gb);clear gb x8 y8 x0;obtain ⟨x8,y8⟩:=zc (k:=8) SB.out.xr rfl;have x0b:=(zc (k:=0) SB.out.xr rfl).1))
     go_meet
     case rel=>exact ⟨_,SB.out.cW (by omega),PMC.out⟩
    ·have h11':(xc.k==11)=false:=beq_eq_false_iff_ne.2 h11
     go_wp2_with fail
     go_meet
     case rel=>exact ⟨_,SC.out,PMC.out⟩
   case rest=>
    obtain ⟨xd,hst,hpm⟩:=hcut
    have PMD:=Lib.hid hpm
    clear hpm
    have SD:=Lib.hid hst
    clear hst SC
    have a0:=(zc (k:=0) SD.out.a rfl).1
    have a5:=(zc (k:=5) SD.out.a rfl).1
    have x0:=(zc (k:=0) SD.out.xr rfl).1
    have x8:=(zc (k:=8) SD.out.xr rfl).1
    have hz8:=SD.out.ok.tx
    go_upto_region 10 with fail
    go_cut [90] from 4 to 98 (fun s90 wx=>∃ bb:Bool,s90 = .bool bb∧(bb=true→3<xd.tx.size)∧MSt w wx k0 k1 k2 k3 k4 k5 p n c xd)
    case first=>
     by_cases h250:250≤k5
     ·have h250':(250:Int)≤k5:=by omega
      by_cases h3:3<xd.tx.size
      ·have h3':(3:Int)<xd.tx.size:=by omega
       go_wp2_with fail
       go_meet
       case rel=>exact ⟨_,rfl,fun _=>h3,SD.out⟩
      ·have h3':¬ (3:Int)<xd.tx.size:=by omega
       go_wp2_with fail
       go_meet
       case rel=>exact ⟨_,rfl,fun h=>(by simp at h),SD.out⟩
     ·have h250':¬ (250:Int)≤k5:=by omega
      go_wp2_with fail
      go_meet
      case rel=>exact ⟨_,rfl,fun h=>(by simp at h),SD.out⟩
    case rest=>
     obtain ⟨bb,rfl,hbb,hst⟩:=hcut
     have SE:=Lib.hid hst
     have HBB:=Lib.hid hbb
     clear hst hbb SD a0 a5 x0 x8
     go_upto_if 90 with fail
     go_cut [] from 4 to 98 (fun wx=>∃ x:Ch,MSt w wx k0 k1 k2 k3 k4 k5 p n c x∧Pm x)
     case first=>
      have x0:=(zc (k:=0) SE.out.xr rfl).1
      obtain ⟨x8,y8⟩:=zc (k:=8) SE.out.xr rfl
      cases bb with
      | true=>
       have h3:=HBB.out rfl
       have h3':(3:Int)≤xd.tx.size:=by omega
       go_wp2_with fail
       go_meet
       case rel=>exact ⟨_,SE.out.cW (by rw [ByteArray.size_extract];omega),PMD.out⟩
      | false=>
       go_wp2_with fail
       go_meet
       case rel=>exact ⟨_,SE.out,PMD.out⟩
     case rest=>
      obtain ⟨xf,hst,hpm⟩:=hcut
      have PMF:=Lib.hid hpm
      clear hpm
      have SF:=Lib.hid hst
      clear hst SE
      obtain ⟨x0,x1,x2,x3,x4,x5,x6,x7,x8,x9,x10,x11⟩:=qc SF.out.xr
      go_wp2_with (first
       | (go_at_call 28;(with_reducible refine (xG SF.out.ok).mono ?_);rintro e w8 ⟨xg,rfl,okg,zrg,pmg,g8⟩;have ZRG:=Lib.hid zrg;have PVG:=Lib.hid (Cy pmg PMF.out);clear zrg pmg;have SG:=Lib.hid (SF.out.grown g8);have OKG:=Lib.hid okg;clear g8 x0 x1 x2 x3 x4 x5 x6 x7 x8 x9 x10 x11)
       | (refine kO _ _ JT SG.out.z rfl rfl (cs:=Ch.cells xg) (pW _) rfl rfl rfl rfl ?_;intro w9 k1 k2;have R9:=Lib.hid k1;have O9:=Lib.hid k2;clear k1 k2))
      refine bodyPost_ret (zI (p:=2) (ty:=29) rfl _ _ (w.heap.size+1) _ _ rfl (zS R9.out) under29c rfl JT) rfl ?_
      exact ⟨xg,rfl,OKG.out,ZRG.out,PVG.out,ji SG.out.g O9.out (by omega)⟩
end MK
end
section
open Go Go.Proofs TR
namespace MK
open Go.AEv.GT (zO qq)
open RD (qe)
attribute [local go_sem ↓] Go.wp_at_zero Go.wp_at_succ
theorem CL {e1 e2 e3 e4 e5 e6 e7 e8:Bool}{c:Ch} (h:ZH c.k.toNat false e1 e2 e3 e4 e5 e6 e7 e8) (z:Zr c):c.b=0:=z.b h.1.symm
theorem CK {e0 e2 e3 e4 e5 e6 e7 e8:Bool}{c:Ch} (h:ZH c.k.toNat e0 false e2 e3 e4 e5 e6 e7 e8) (z:Zr c):c.u=0:=z.u h.2.1.symm
theorem CJ {e0 e1 e3 e4 e5 e6 e7 e8:Bool}{c:Ch} (h:ZH c.k.toNat e0 e1 false e3 e4 e5 e6 e7 e8) (z:Zr c):c.r=0:=z.r h.2.2.1.symm
theorem CI {e0 e1 e2 e4 e5 e6 e7 e8:Bool}{c:Ch} (h:ZH c.k.toNat e0 e1 e2 false e4 e5 e6 e7 e8) (z:Zr c):c.o=0:=z.o h.2.2.2.1.symm
theorem CH {e0 e1 e2 e3 e5 e6 e7 e8:Bool}{c:Ch} (h:ZH c.k.toNat e0 e1 e2 e3 false e5 e6 e7 e8) (z:Zr c):c.s=0:=z.s h.2.2.2.2.1.symm
theorem CG {e0 e1 e2 e3 e4 e6 e7 e8:Bool}{c:Ch} (h:ZH c.k.toNat e0 e1 e2 e3 e4 false e6 e7 e8) (z:Zr c):c.d=0:=z.d h.2.2.2.2.2.1.symm
theorem CF {e0 e1 e2 e3 e4 e5 e7 e8:Bool}{c:Ch} (h:ZH c.k.toNat e0 e1 e2 e3 e4 e5 false e7 e8) (z:Zr c):c.nm=⟨#[]⟩:=z.nm h.2.2.2.2.2.2.1.symm
theorem CE {e0 e1 e2 e3 e4 e5 e6 e8:Bool}{c:Ch} (h:ZH c.k.toNat e0 e1 e2 e3 e4 e5 e6 false e8) (z:Zr c):c.tx=⟨#[]⟩:=z.tx h.2.2.2.2.2.2.2.1.symm
theorem xD {e0 e1 e2 e3 e4 e5 e6 e7:Bool}{c:Ch} (h:ZH c.k.toNat e0 e1 e2 e3 e4 e5 e6 e7 false) (z:Zr c):c.ac=⟨#[]⟩:=z.ac h.2.2.2.2.2.2.2.2.symm
theorem xB {e0 e1 e2 e3 e4 e5 e6 e7:Bool}{c:Ch} (h:ZH c.k.toNat e0 e1 e2 e3 e4 e5 e6 e7 false) (z:Zr c):c.pa=⟨#[]⟩:=z.pa h.2.2.2.2.2.2.2.2.symm
theorem xC {e0 e1 e2 e3 e4 e5 e6 e7:Bool}{c:Ch} (h:ZH c.k.toNat e0 e1 e2 e3 e4 e5 e6 e7 false) (z:Zr c):c.dp=false:=z.dp h.2.2.2.2.2.2.2.2.symm
theorem xF {w:World}{c:Ch} (hc:c.Ok) (hz:Zr c):Calls Tryz.prog 28 #[.agg c.cells.toArray] w (fun e w2=>e = .returned (.agg c.cells.toArray)∧Grown w w2):=by
 have HC:=Lib.hid hc
 have HZ:=Lib.hid hz
 have hk0:=hc.k0
 have hk1:=hc.k1
 clear hc hz
 go_enter Tryz.func28,Tryz.ntmps28
 go_upto_if 12 with (first
  | (go_at_call 36;(with_reducible refine (uses36_e hk0 hk1).mono ?_);rintro e w2 ⟨e0,e1,e2,e3,e4,e5,e6,e7,e8,rfl,g2,he⟩;have HE:=Lib.hid he;clear he;have G2:=Lib.hid (((za _ _).trans' (za _ _)).trans' g2);have A2:=Lib.hid (zk ((za _ (.cells #[.int .i64 0,.int .i64 0,.int .i64 0,.int .i64 0,.int .i64 0,.int .i64 0,.int .i64 0,.string ⟨#[]⟩,.string ⟨#[]⟩,.string ⟨#[]⟩,.string ⟨#[]⟩,.bool false] 29)).trans' g2) (zn w (z:=#[.int .i64 c.k,.int .i64 c.b,.int .i64 c.u,.int .i64 c.r,.int .i64 c.o,.int .i64 c.s,.int .i64 c.d,.string c.nm,.string c.tx,.string c.ac,.string c.pa,.bool c.dp]) (t:=29)));have Z2:=Lib.hid (zk g2 (jS (w:=w.alloc (.cells #[.int .i64 c.k,.int .i64 c.b,.int .i64 c.u,.int .i64 c.r,.int .i64 c.o,.int .i64 c.s,.int .i64 c.d,.string c.nm,.string c.tx,.string c.ac,.string c.pa,.bool c.dp] 29)) (z:=#[.int .i64 0,.int .i64 0,.int .i64 0,.int .i64 0,.int .i64 0,.int .i64 0,.int .i64 0,.string ⟨#[]⟩,.string ⟨#[]⟩,.string ⟨#[]⟩,.string ⟨#[]⟩,.bool false]) (t:=29) (b:=w.heap.size+1) (by rw [zQ])));obtain ⟨c0,c1,c2,c3,c4,c5,c6,c7,c8,c9,c10,c11⟩:=qc A2.out;have c0a:=fun ob=>RD.ze c0 (za w2 ob);clear g2))
 have S0':=dn (e0:=e0) (e1:=e1) (e2:=e2) (e3:=e3) (e4:=e4) (e5:=e5) (e6:=e6) (e7:=e7) (e8:=e8) A2.out Z2.out HC.out G2.out
 obtain ⟨WA,hWA⟩:∃ WA,WA=((w2.alloc (.cells #[.bool e0,.bool e1,.bool e2,.bool e3,.bool e4,.bool e5,.bool e6,.bool e7,.bool e8] 85)).alloc (.cells #[.int .i64 c.k,.int .i64 0,.int .i64 0,.int .i64 0,.int .i64 0,.int .i64 0,.int .i64 0,.string ⟨#[]⟩,.string ⟨#[]⟩,.string ⟨#[]⟩,.string ⟨#[]⟩,.bool false] 29)):=⟨_,rfl⟩
 rw [← hWA]at S0'
 rw [← hWA]
 have S0:=Lib.hid S0'
 clear S0' hWA c0a c0 c1 c2 c3 c4 c5 c6 c7 c8 c9 c10 c11
 go_cut [] from 11 to 56 (fun wx=>OSt w wx w2.heap.size (w2.heap.size+1) c ⟨c.k,c.b,0,0,0,0,0,⟨#[]⟩,⟨#[]⟩,⟨#[]⟩,⟨#[]⟩,false⟩ e0 e1 e2 e3 e4 e5 e6 e7 e8)
 case first=>
  have ca0:=(zc (k:=0) S0.out.a rfl).1
  have ca1:=(zc (k:=1) S0.out.a rfl).1
  obtain ⟨cx0,fx0⟩:=zc (k:=0) S0.out.xr rfl
  obtain ⟨cx1,fx1⟩:=zc (k:=1) S0.out.xr rfl
  cases e0 with
  | true=>
   go_wp2_with fail
   go_meet
   case rel=>exact S0.out.tU HC.out
  | false=>
   go_wp2_with fail
   go_meet
   case rel=>exact (by rw [CL HE.out HZ.out];exact S0.out)
 case rest=>
  have hst:=hcut;clear hcut
  have S1:=Lib.hid hst
  clear hst
  have cf0:=(zc (k:=0) S1.out.f rfl).1
  have cf:=(zc (k:=1) S1.out.f rfl).1
  go_upto_if 17 with fail
  go_cut [] from 11 to 56 (fun wx=>OSt w wx w2.heap.size (w2.heap.size+1) c ⟨c.k,c.b,c.u,0,0,0,0,⟨#[]⟩,⟨#[]⟩,⟨#[]⟩,⟨#[]⟩,false⟩ e0 e1 e2 e3 e4 e5 e6 e7 e8)
  case first=>
   have ca0:=(zc (k:=0) S1.out.a rfl).1
   have ca2:=(zc (k:=2) S1.out.a rfl).1
   obtain ⟨cx0,fx0⟩:=zc (k:=0) S1.out.xr rfl
   obtain ⟨cx2,fx2⟩:=zc (k:=2) S1.out.xr rfl
   cases e1 with
   | true=>
    go_wp2_with fail
    go_meet
    case rel=>exact S1.out.pz HC.out
   | false=>
    go_wp2_with fail
    go_meet
    case rel=>exact (by rw [CK HE.out HZ.out];exact S1.out)
  case rest=>
   have hst:=hcut;clear hcut
   have S2:=Lib.hid hst
   clear hst
   have cf0:=(zc (k:=0) S2.out.f rfl).1
   have cf:=(zc (k:=2) S2.out.f rfl).1
   go_upto_if 22 with fail
   go_cut [] from 11 to 56 (fun wx=>OSt w wx w2.heap.size (w2.heap.size+1) c ⟨c.k,c.b,c.u,c.r,0,0,0,⟨#[]⟩,⟨#[]⟩,⟨#[]⟩,⟨#[]⟩,false⟩ e0 e1 e2 e3 e4 e5 e6 e7 e8)
   case first=>
    have ca0:=(zc (k:=0) S2.out.a rfl).1
    have ca3:=(zc (k:=3) S2.out.a rfl).1
    obtain ⟨cx0,fx0⟩:=zc (k:=0) S2.out.xr rfl
    obtain ⟨cx3,fx3⟩:=zc (k:=3) S2.out.xr rfl
    cases e2 with
    | true=>
     go_wp2_with fail
     go_meet
     case rel=>exact S2.out.fA HC.out
    | false=>
     go_wp2_with fail
     go_meet
     case rel=>exact (by rw [CJ HE.out HZ.out];exact S2.out)
   case rest=>
    have hst:=hcut;clear hcut
    have S3:=Lib.hid hst
    clear hst
    have cf0:=(zc (k:=0) S3.out.f rfl).1
    have cf:=(zc (k:=3) S3.out.f rfl).1
    go_upto_if 27 with fail
    go_cut [] from 11 to 56 (fun wx=>OSt w wx w2.heap.size (w2.heap.size+1) c ⟨c.k,c.b,c.u,c.r,c.o,0,0,⟨#[]⟩,⟨#[]⟩,⟨#[]⟩,⟨#[]⟩,false⟩ e0 e1 e2 e3 e4 e5 e6 e7 e8)
    case first=>
     have ca0:=(zc (k:=0) S3.out.a rfl).1
     have ca4:=(zc (k:=4) S3.out.a rfl).1
     obtain ⟨cx0,fx0⟩:=zc (k:=0) S3.out.xr rfl
     obtain ⟨cx4,fx4⟩:=zc (k:=4) S3.out.xr rfl
     cases e3 with
     | true=>
      go_wp2_with fail
      go_meet
      case rel=>exact S3.out.km HC.out
     | false=>
      go_wp2_with fail
      go_meet
      case rel=>exact (by rw [CI HE.out HZ.out];exact S3.out)
    case rest=>
     have hst:=hcut;clear hcut
     have S4:=Lib.hid hst
     clear hst
     have cf0:=(zc (k:=0) S4.out.f rfl).1
     have cf:=(zc (k:=4) S4.out.f rfl).1
     go_upto_if 32 with fail
     go_cut [] from 11 to 56 (fun wx=>OSt w wx w2.heap.size (w2.heap.size+1) c ⟨c.k,c.b,c.u,c.r,c.o,c.s,0,⟨#[]⟩,⟨#[]⟩,⟨#[]⟩,⟨#[]⟩,false⟩ e0 e1 e2 e3 e4 e5 e6 e7 e8)
     case first=>
      have ca0:=(zc (k:=0) S4.out.a rfl).1
      have ca5:=(zc (k:=5) S4.out.a rfl).1
      obtain ⟨cx0,fx0⟩:=zc (k:=0) S4.out.xr rfl
      obtain ⟨cx5,fx5⟩:=zc (k:=5) S4.out.xr rfl
      cases e4 with
      | true=>
       go_wp2_with fail
       go_meet
       case rel=>exact S4.out.tT HC.out
      | false=>
       go_wp2_with fail
       go_meet
       case rel=>exact (by rw [CH HE.out HZ.out];exact S4.out)
     case rest=>
      have hst:=hcut;clear hcut
      have S5:=Lib.hid hst
      clear hst
      have cf0:=(zc (k:=0) S5.out.f rfl).1
      have cf:=(zc (k:=5) S5.out.f rfl).1
      go_upto_if 37 with fail
      go_cut [] from 11 to 56 (fun wx=>OSt w wx w2.heap.size (w2.heap.size+1) c ⟨c.k,c.b,c.u,c.r,c.o,c.s,c.d,⟨#[]⟩,⟨#[]⟩,⟨#[]⟩,⟨#[]⟩,false⟩ e0 e1 e2 e3 e4 e5 e6 e7 e8)
      case first=>
       have ca0:=(zc (k:=0) S5.out.a rfl).1
       have ca6:=(zc (k:=6) S5.out.a rfl).1
       obtain ⟨cx0,fx0⟩:=zc (k:=0) S5.out.xr rfl
       obtain ⟨cx6,fx6⟩:=zc (k:=6) S5.out.xr rfl
       cases e5 with
       | true=>
        go_wp2_with fail
        go_meet
        case rel=>exact S5.out.tS HC.out
       | false=>
        go_wp2_with fail
        go_meet
        case rel=>exact (by rw [CG HE.out HZ.out];exact S5.out)
      case rest=>
       have hst:=hcut;clear hcut
       have S6:=Lib.hid hst
       clear hst
       have cf0:=(zc (k:=0) S6.out.f rfl).1
       have cf:=(zc (k:=6) S6.out.f rfl).1
       go_upto_if 42 with fail
       go_cut [] from 11 to 56 (fun wx=>OSt w wx w2.heap.size (w2.heap.size+1) c ⟨c.k,c.b,c.u,c.r,c.o,c.s,c.d,c.nm,⟨#[]⟩,⟨#[]⟩,⟨#[]⟩,false⟩ e0 e1 e2 e3 e4 e5 e6 e7 e8)
       case first=>
        have ca0:=(zc (k:=0) S6.out.a rfl).1
        have ca7:=(zc (k:=7) S6.out.a rfl).1
        obtain ⟨cx0,fx0⟩:=zc (k:=0) S6.out.xr rfl
        obtain ⟨cx7,fx7⟩:=zc (k:=7) S6.out.xr rfl
        cases e6 with
        | true=>
         go_wp2_with fail
         go_meet
         case rel=>exact S6.out.fy HC.out
        | false=>
         go_wp2_with fail
         go_meet
         case rel=>exact (by rw [CF HE.out HZ.out];exact S6.out)
       case rest=>
        have hst:=hcut;clear hcut
        have S7:=Lib.hid hst
        clear hst
        have cf0:=(zc (k:=0) S7.out.f rfl).1
        have cf:=(zc (k:=7) S7.out.f rfl).1
        go_upto_if 47 with fail
        go_cut [] from 11 to 56 (fun wx=>OSt w wx w2.heap.size (w2.heap.size+1) c ⟨c.k,c.b,c.u,c.r,c.o,c.s,c.d,c.nm,c.tx,⟨#[]⟩,⟨#[]⟩,false⟩ e0 e1 e2 e3 e4 e5 e6 e7 e8)
        case first=>
         have ca0:=(zc (k:=0) S7.out.a rfl).1
         have ca8:=(zc (k:=8) S7.out.a rfl).1
         obtain ⟨cx0,fx0⟩:=zc (k:=0) S7.out.xr rfl
         obtain ⟨cx8,fx8⟩:=zc (k:=8) S7.out.xr rfl
         cases e7 with
         | true=>
          go_wp2_with fail
          go_meet
          case rel=>exact S7.out.cW HC.out
         | false=>
          go_wp2_with fail
          go_meet
          case rel=>exact (by rw [CE HE.out HZ.out];exact S7.out)
        case rest=>
         have hst:=hcut;clear hcut
         have S8:=Lib.hid hst
         clear hst
         have cf0:=(zc (k:=0) S8.out.f rfl).1
         have cf:=(zc (k:=8) S8.out.f rfl).1
         go_upto_if 52 with fail
         go_cut [] from 11 to 56 (fun wx=>OSt w wx w2.heap.size (w2.heap.size+1) c ⟨c.k,c.b,c.u,c.r,c.o,c.s,c.d,c.nm,c.tx,c.ac,c.pa,c.dp⟩ e0 e1 e2 e3 e4 e5 e6 e7 e8)
         case first=>
          have ca0:=(zc (k:=0) S8.out.a rfl).1
          have ca9:=(zc (k:=9) S8.out.a rfl).1
          have ca10:=(zc (k:=10) S8.out.a rfl).1
          have ca11:=(zc (k:=11) S8.out.a rfl).1
          obtain ⟨cx0,fx0⟩:=zc (k:=0) S8.out.xr rfl
          obtain ⟨cx9,fx9⟩:=zc (k:=9) S8.out.xr rfl
          obtain ⟨cx10,fx10⟩:=zc (k:=10) S8.out.xr rfl
          obtain ⟨cx11,fx11⟩:=zc (k:=11) S8.out.xr rfl
          cases e8 with
          | true=>
           go_wp2_with fail
           go_meet
           case rel=>exact S8.out.mU HC.out
          | false=>
           go_wp2_with fail
           go_meet
           case rel=>exact (by rw [xD HE.out HZ.out,xB HE.out HZ.out,xC HE.out HZ.out];exact S8.out)
         case rest=>
          have hst:=hcut;clear hcut
          have S9:=Lib.hid hst
          clear hst
          obtain ⟨y0,y1,y2,y3,y4,y5,y6,y7,y8,y9,y10,y11⟩:=qc S9.out.xr
          go_wp2_with (first
           | (refine kO _ _ JT S9.out.z rfl rfl (cs:=Ch.cells c) (pW _) rfl rfl rfl rfl ?_;intro w9 k1 k2;have R9:=Lib.hid k1;have O9:=Lib.hid k2;clear k1 k2))
          refine bodyPost_ret (zI (p:=2) (ty:=29) rfl _ _ (w.heap.size+1) _ _ rfl (zS R9.out) under29c rfl JT) rfl ?_
          exact ⟨rfl,ji S9.out.g O9.out (by omega)⟩
def Kx (x:Ch):Bool:=!decide (12<x.nm.size)&&!decide (12<x.ac.size)&&!decide (104<x.pa.size)&&!decide (8000<x.tx.size)
theorem wX {x:Ch} (h:x.Ok) {j:Nat} (hj:j<6):∃ n:Int,([.int .i64 x.b,.int .i64 x.u,.int .i64 x.r,.int .i64 x.o,.int .i64 x.s,.int .i64 x.d]:List Value)[j]? = some (.int .i64 n)∧¬ n<0∧¬ 1000000<n:=by
 have:j=0∨j=1∨j=2∨j=3∨j=4∨j=5:=by omega
 have e:∀ i:Int,0≤i∧i≤99→¬ i<0∧¬ 1000000<i:=fun i hi=>by omega
 rcases this with rfl | rfl | rfl | rfl | rfl | rfl
 ·exact ⟨_,rfl,e _ h.b⟩
 ·exact ⟨_,rfl,e _ h.u⟩
 ·exact ⟨_,rfl,e _ h.r⟩
 ·exact ⟨_,rfl,e _ h.o⟩
 ·exact ⟨_,rfl,e _ h.s⟩
 ·exact ⟨_,rfl,e _ h.d⟩
def CkP (x:Ch) (w:World) (e:Ending) (w2:World):Prop:=e = .returned (.int .i64 (if Kx x then 0 else 3))∧Grown w w2
theorem BM {x:Ch}{w w2:World} (l1:¬ (12:Int)<(x.nm.size:Int)) (l2:¬ (12:Int)<(x.ac.size:Int)) (l3:¬ (104:Int)<(x.pa.size:Int)) (l4:¬ (8000:Int)<(x.tx.size:Int)) (g:Grown w w2):CkP x w (.returned (.int .i64 0)) w2:=by
 have:Kx x=true:=by
  unfold Kx
  rw [decide_eq_false (by omega),decide_eq_false (by omega),decide_eq_false (by omega),decide_eq_false (by omega)]
  rfl
 unfold CkP
 rw [this]
 exact ⟨rfl,g⟩
theorem bO {x:Ch}{w w2:World} (l:(12:Int)<(x.nm.size:Int)∨(12:Int)<(x.ac.size:Int)∨(104:Int)<(x.pa.size:Int)∨(8000:Int)<(x.tx.size:Int)) (g:Grown w w2):CkP x w (.returned (.int .i64 3)) w2:=by
 have:Kx x=false:=by
  unfold Kx
  rcases l with l | l | l | l
  ·rw [decide_eq_true (show 12<x.nm.size by omega)];rfl
  ·rw [decide_eq_true (show 12<x.ac.size by omega)];simp
  ·rw [decide_eq_true (show 104<x.pa.size by omega)];simp
  ·rw [decide_eq_true (show 8000<x.tx.size by omega)];simp
 unfold CkP
 rw [this]
 exact ⟨rfl,g⟩
theorem eA {w:World}{x:Ch} (hx:x.Ok) (hz:Zr x):Calls Tryz.prog 9 #[.agg x.cells.toArray] w (CkP x w):=by
 have HX:=Lib.hid hx
 have HZ:=Lib.hid hz
 have h1:¬ x.k<1:=by have:=hx.k0;omega
 have h18:¬ (18:Int)<x.k:=by have:=hx.k1;omega
 obtain ⟨W1,hW1⟩:∃ W1,W1=w.alloc (.cells #[.int .i64 x.k,.int .i64 x.b,.int .i64 x.u,.int .i64 x.r,.int .i64 x.o,.int .i64 x.s,.int .i64 x.d,.string x.nm,.string x.tx,.string x.ac,.string x.pa,.bool x.dp] 29):=⟨_,rfl⟩
 have g1:Grown w W1:=by rw [hW1];exact za _ _
 have R1:zx Tryz.prog W1 (w.heap.size,0,0) 29 x.cells:=by rw [hW1];exact zn w
 have KS:RowKit.Hid (∀ wx,Grown W1 wx→wx.cell? ⟨w.heap.size,0,none⟩=some (.int .i64 x.k)∧wx.cell? ⟨w.heap.size,1,none⟩=some (.int .i64 x.b)∧wx.cell? ⟨w.heap.size,2,none⟩=some (.int .i64 x.u)∧wx.cell? ⟨w.heap.size,3,none⟩=some (.int .i64 x.r)∧wx.cell? ⟨w.heap.size,4,none⟩=some (.int .i64 x.o)∧wx.cell? ⟨w.heap.size,5,none⟩=some (.int .i64 x.s)∧wx.cell? ⟨w.heap.size,6,none⟩=some (.int .i64 x.d)∧wx.cell? ⟨w.heap.size,7,none⟩=some (.string x.nm)∧wx.cell? ⟨w.heap.size,8,none⟩=some (.string x.tx)∧wx.cell? ⟨w.heap.size,9,none⟩=some (.string x.ac)∧wx.cell? ⟨w.heap.size,10,none⟩=some (.string x.pa)∧wx.cell? ⟨w.heap.size,11,none⟩=some (.bool x.dp)):=Lib.hid (fun wx g=>qc (zk g R1))
 have G1:=Lib.hid g1
 have RR:=Lib.hid R1
 clear hx hz g1 R1
 go_enter Tryz.func9,Tryz.ntmps9
 go_upto_region 3 with fail
 rw [← hW1]
 clear hW1
 obtain ⟨u0,u1,u2,u3,u4,u5,u6,u7,u8,u9,u10,u11⟩:=KS.out W1 (RD.zL _)
 go_region_held3 (fun wx=>wx.cell? ⟨w.heap.size,0,none⟩=some (.int .i64 x.k)∧wx.cell? ⟨w.heap.size,1,none⟩=some (.int .i64 x.b)∧wx.cell? ⟨w.heap.size,2,none⟩=some (.int .i64 x.u)∧wx.cell? ⟨w.heap.size,3,none⟩=some (.int .i64 x.r)∧wx.cell? ⟨w.heap.size,4,none⟩=some (.int .i64 x.o)∧wx.cell? ⟨w.heap.size,5,none⟩=some (.int .i64 x.s)∧wx.cell? ⟨w.heap.size,6,none⟩=some (.int .i64 x.d)∧wx.cell? ⟨w.heap.size,7,none⟩=some (.string x.nm)∧wx.cell? ⟨w.heap.size,8,none⟩=some (.string x.tx)∧wx.cell? ⟨w.heap.size,9,none⟩=some (.string x.ac)∧wx.cell? ⟨w.heap.size,10,none⟩=some (.string x.pa)∧wx.cell? ⟨w.heap.size,11,none⟩=some (.bool x.dp))
  (first | with_reducible exact ⟨u0,u1,u2,u3,u4,u5,u6,u7,u8,u9,u10,u11⟩ | with_reducible exact KS.out _ (zp _) | with_reducible exact KS.out _ G5.out)
  (first
   | (go_at_call 28;(with_reducible refine (xF HX.out HZ.out).mono ?_);rintro e w5 ⟨rfl,g5⟩;have G5:=Lib.hid ((zp _).trans' g5);clear g5))
 dsimp only [Exit.then]
 have R5:=Lib.hid (zk G5.out RR.out)
 clear u0 u1 u2 u3 u4 u5 u6 u7 u8 u9 u10 u11
 obtain ⟨u0,u1,u2,u3,u4,u5,u6,u7,u8,u9,u10,u11⟩:=qc R5.out
 go_wp2_with fail
 obtain ⟨W6,hW6⟩:∃ W6,W6=w5.alloc (.cells #[.int .i64 x.b,.int .i64 x.u,.int .i64 x.r,.int .i64 x.o,.int .i64 x.s,.int .i64 x.d] 3):=⟨_,rfl⟩
 obtain ⟨b6,hb6⟩:∃ b6,b6=w5.heap.size:=⟨_,rfl⟩
 have R6:RowKit.Hid (zx Tryz.prog W6 (b6,0,0) 3 [.int .i64 x.b,.int .i64 x.u,.int .i64 x.r,.int .i64 x.o,.int .i64 x.s,.int .i64 x.d]):=Lib.hid (by rw [hW6,hb6];exact zn w5)
 have G6:RowKit.Hid (Grown w5 W6):=Lib.hid (by rw [hW6];exact za _ _)
 have RX:=Lib.hid (zk G6.out R5.out)
 rw [← hW6,← hb6]
 clear hW6 hb6 u0 u1 u2 u3 u4 u5 u6 u7 u8 u9 u10 u11
 go_loopg [31] 6 (fun g i wx=>wx=W6∧∃ j:Nat,j+g=6∧i = .int .i64 j)
 case atStart=>exact ⟨rfl,0,rfl,rfl⟩
 case round=>
  obtain ⟨rfl,j,hj,hi⟩:=hrel
  have hi':_=Value.int .i64 (j:Nat):=hi
  subst hi'
  cases gk with
  | succ g=>
   have hj6:(j:Int)<6:=by omega
   obtain ⟨nn,hnn,hn0,hn1⟩:=wX HX.out (j:=j) (by omega)
   have xi:=(zc R6.out hnn).1
   go_wp2_with fail
   go_roundg g
   case measure=>omega
   case rel=>exact ⟨rfl,j+1,by omega,rfl⟩
  | zero=>
   obtain rfl:j=6:=by omega
   obtain ⟨u0,u1,u2,u3,u4,u5,u6,u7,u8,u9,u10,u11⟩:=qc RX.out
   by_cases l1:(12:Int)<(x.nm.size:Int)
   ·go_wp2_with fail
    go_ret
    exact bO (.inl l1) (G1.out.trans' (G5.out.trans' G6.out))
   by_cases l2:(12:Int)<(x.ac.size:Int)
   ·go_wp2_with fail
    go_ret
    exact bO (.inr (.inl l2)) (G1.out.trans' (G5.out.trans' G6.out))
   by_cases l3:(104:Int)<(x.pa.size:Int)
   ·go_wp2_with fail
    go_ret
    exact bO (.inr (.inr (.inl l3))) (G1.out.trans' (G5.out.trans' G6.out))
   by_cases l4:(8000:Int)<(x.tx.size:Int)
   ·go_wp2_with fail
    go_ret
    exact bO (.inr (.inr (.inr l4))) (G1.out.trans' (G5.out.trans' G6.out))
   go_wp2_with fail
   go_ret
   exact BM (by omega) (by omega) (by omega) (by omega) (G1.out.trans' (G5.out.trans' G6.out))
end MK
end
end Go.AEv
