/- The law of heads holds: its call. Conditions: the package variables hold what they should, the items lie in memory. -/
import Derived.Test.YtaffhpgaagnjfaaGreatDoorL2a
import Derived.Test.YtaffhpgaagnjfaaGreatDoorL1b
import Derived.Deep.LoopGhost
import Derived.Lib.Hide
import Derived.Deep.RegionHeld3
import Derived.Deep.DeepCutAuto
namespace Go.AEv
open Go Go.Proofs TR
open KT (zC)
theorem VW {B:Nat→Prop}{w0 w:World}{t want:Value}{es fs:List Ent}{cs:List Value} (H:St B w0 w t want es fs) (hD:cs=zC 32 (qQ (es.map (·.1)))):cs=zC 32 (qQ ((es.map (·.1)).take fs.length)):=by
 rw [hD,List.take_of_length_le]
 rw [List.length_map,y9 H]
 exact Nat.le_refl _
def zy8 (w0:World) (m:Nat) (t want:Value) (es fs:List Ent) (g:Nat) (i:Value) (w:World):Prop:=∃ j:Nat,j+g=m∧i = .int .i64 j∧St (own w0) w0 w t want es fs
theorem zt9 {B:Nat→Prop}{w0 w:World}{t:Value}{q:Option Addr}{c:Nat}{es fs:List Ent}{cs bs:List Value}{b j:Nat} (TK:JS w0) (few:es.length≤8) (hj:j≤fs.length) (hD:cs=zC 32 (qQ ((es.map (·.1)).take j))) (H:RowKit.Hid (Lw B w0 w t (.slice q fs.length c) es fs b bs)) :
  Calls Tryz.prog 9 #[.slice q j c] w fun e w2=>e = .returned (.agg cs.toArray)∧RowKit.Hid (Lw B w0 w2 t (.slice q fs.length c) es fs b bs):=
 (zjy TK H.out few hj (Vy H.out.st j hj) hD).mono fun _ _ h=>⟨h.1,Lib.hid h.2⟩
set_option maxHeartbeats 40000000 in
set_option maxRecDepth 1000000 in
theorem zid (v:Value) (n:Int) (w:World) (hk:JS w) (h0:XO w) (hv:zeX w v):Calls Tryz.prog 3 #[v,.int .i64 n] w fun e w2=>e = .returned (.bool true)∧Grown w w2:=by
 have TK:=Lib.hid hk
 have T0:=Lib.hid h0
 have HV:=Lib.hid hv
 clear hk h0 hv
 go_enter Tryz.func3,Tryz.ntmps3
 go_wp2_with (first
  | (go_at_call 6;(with_reducible refine (ziQ T0.out).mono ?_);rintro e w1 ⟨rfl,hg⟩;have G1:=Lib.hid hg;clear hg)
  | (go_at_call 7;(with_reducible refine (zoA G1.out TK.out T0.out HV.out).mono ?_);rintro e w2 ⟨a,q,c,es,fs,few,hc,rfl,H⟩;have H2:=Lib.hid H;have few8:RowKit.Hid (es.length≤8):=Lib.hid (by have:=y9 H;omega);clear H;obtain ⟨cs,hcs⟩:∃ cs,cs=zC 32 (qQ (es.map (·.1))):=⟨_,rfl⟩;have HD:=Lib.hid hcs;have EQ:=zn2 hcs;clear hcs)
  | (go_at_call 8;(with_reducible refine (zsi H2.out few8.out HD.out).mono ?_);rintro e w3 ⟨rfl,H⟩;have H3:=Lib.hid H;clear H)
  | (go_at_call 9;(with_reducible refine (zrR TK.out H3.out few8.out (Nat.le_refl _) (Vy H3.out _ (Nat.le_refl _)) (VW H3.out HD.out)).mono ?_);rintro e w4 ⟨rfl,H⟩;have H4:=Lib.hid H;clear H))
 ·go_loopg [35] (fs.length+1) (fun g i wr=>zy8 w (fs.length+1) (.pointer (some a)) (.slice q fs.length c) es fs g i wr)
  case atStart=>exact ⟨0,by omega,rfl,H4.out⟩
  case round=>
   obtain ⟨j,hj,rfl,H⟩:=hrel
   have H5:=Lib.hid H
   clear H
   cases gk with
   | zero=>
    have hjm:¬ ((j:Int)<(fs.length:Int)+1):=by omega
    go_upto_if 57 with (fail)
    go_cut [10] (fun s10 wx=>St (own w) w wx (.pointer (some a)) (.slice q fs.length c) es fs)
    case first=>
     by_cases h0:(0:Int)<(fs.length:Int)
     ·go_wp2_with (first
      | (go_at_call 11;(with_reducible refine (zpB H5.out few8.out (by have:=y9 H5.out;omega)).mono ?_);rintro e w11 ⟨R,p1,p2,n1,n2,c1,c2,rfl,H,hacc,u1,u2⟩;have H11:=Lib.hid H;have HA:=Lib.hid hacc;have U1:=Lib.hid u1;have U2:=Lib.hid u2;clear H hacc u1 u2)
      | (go_at_call 12;(with_reducible refine (zr7 TK.out (fun c h=>h) (H11.out.grown (jM _ _)) few8.out HA.out ((jf.yC (jM _ _)).atS U1.out) ((jf.yC (jM _ _)).atS U2.out)).mono ?_);rintro e w12 ⟨a2,es2,rfl,H,ht,hl⟩;have H12:=Lib.hid H;have HT:=Lib.hid ht;have HLn:=Lib.hid hl;clear H ht hl)
      | (go_at_call 13;(with_reducible refine (zuH HT.out HLn.out).mono ?_);rintro e w13 ⟨rfl,rfl⟩))
      go_meet
      case rel=>exact H12.out
     ·go_wp2_with (fail)
      go_meet
      case rel=>exact H5.out
    case rest=>
     have H5b:=Lib.hid hcut
     clear hcut
     by_cases hn:0≤n∧n≤(fs.length:Int)
     ·obtain ⟨cn,hcn⟩:∃ cs,cs=zC 32 (qQ ((es.map (·.1)).take n.toNat)):=⟨_,rfl⟩
      have HDn:=Lib.hid hcn
      clear hcn
      obtain ⟨hn1,hn2⟩:=id hn
      go_wp2_with (first
      | (go_at_call 13;(with_reducible refine (znr H15.out.st).mono ?_);rintro e w13 ⟨rfl,rfl⟩)
      | (go_at_call 10;(with_reducible refine (zyt H5b.out few8.out hn.1 hn.2 HDn.out).mono ?_);rintro e w14 ⟨rfl,H⟩;have H14:=Lib.hid H;clear H)
      | (refine Yo _ _ _ rfl rfl H14.out HDn.out rfl rfl rfl ?_;intro w15 H;have H15:=Lib.hid H;clear H)
      | (go_at_call 8;(with_reducible refine (zie H15.out few8.out HD.out).mono ?_);rintro e w16 ⟨rfl,H⟩;have H16:=Lib.hid H;clear H)
      | (go_at_call 9;(with_reducible refine (zjy TK.out H16.out few8.out (Nat.le_refl _) (Vy H16.out.st _ (Nat.le_refl _)) (VW H16.out.st HD.out)).mono ?_);rintro e w17 ⟨rfl,H⟩;have H17:=Lib.hid H;clear H))
      go_ret
      exact ⟨rfl,H17.out.st.g⟩
     ·obtain ⟨cn,hcn⟩:∃ cs,cs=zC 32 (fun _=>0):=⟨_,rfl⟩
      have HDn:=Lib.hid hcn
      have EQz:=zero_eq hcn
      clear hcn
      by_cases hneg:n<0
      ·go_wp2_with (first
      | (go_at_call 13;(with_reducible refine (znr H15.out.st).mono ?_);rintro e w13 ⟨rfl,rfl⟩)
      | (go_at_call 10;(with_reducible refine (zrl H5b.out few8.out (by omega) HDn.out).mono ?_);rintro e w14 ⟨rfl,H⟩;have H14:=Lib.hid H;clear H)
      | (refine Yo _ _ _ rfl rfl H14.out HDn.out rfl rfl rfl ?_;intro w15 H;have H15:=Lib.hid H;clear H)
      | (refine zcp _ rfl H17.out HDn.out rfl rfl ?_)
      | (go_at_call 8;(with_reducible refine (zie H15.out few8.out HD.out).mono ?_);rintro e w16 ⟨rfl,H⟩;have H16:=Lib.hid H;clear H)
      | (go_at_call 9;(with_reducible refine (zjy TK.out H16.out few8.out (Nat.le_refl _) (Vy H16.out.st _ (Nat.le_refl _)) (VW H16.out.st HD.out)).mono ?_);rintro e w17 ⟨rfl,H⟩;have H17:=Lib.hid H;clear H))
       go_ret
       exact ⟨rfl,H17.out.st.g⟩
      ·have hfar:((fs.length:Int))<n:=by omega
       have hfd:decide (n≤(fs.length:Int))=false:=decide_eq_false (by omega)
       go_wp2_with (first
      | (go_at_call 13;(with_reducible refine (znr H15.out.st).mono ?_);rintro e w13 ⟨rfl,rfl⟩)
      | (go_at_call 10;(with_reducible refine (zrl H5b.out few8.out (by omega) HDn.out).mono ?_);rintro e w14 ⟨rfl,H⟩;have H14:=Lib.hid H;clear H)
      | (refine Yo _ _ _ rfl rfl H14.out HDn.out rfl rfl rfl ?_;intro w15 H;have H15:=Lib.hid H;clear H)
      | (refine zcp _ rfl H17.out HDn.out rfl rfl ?_)
      | (go_at_call 8;(with_reducible refine (zie H15.out few8.out HD.out).mono ?_);rintro e w16 ⟨rfl,H⟩;have H16:=Lib.hid H;clear H)
      | (go_at_call 9;(with_reducible refine (zjy TK.out H16.out few8.out (Nat.le_refl _) (Vy H16.out.st _ (Nat.le_refl _)) (VW H16.out.st HD.out)).mono ?_);rintro e w17 ⟨rfl,H⟩;have H17:=Lib.hid H;clear H))
       go_ret
       exact ⟨rfl,H17.out.st.g⟩
   | succ g=>
    have hjm:(j:Int)<(fs.length:Int)+1:=by omega
    obtain ⟨cj,hcj⟩:∃ cs,cs=zC 32 (qQ ((es.map (·.1)).take j)):=⟨_,rfl⟩
    have HDj:=Lib.hid hcj
    have EQj:=zn2 hcj
    have hi29:=zh8 hcj
    clear hcj
    have h29:=under29
    have hje:RowKit.Hid (j≤es.length):=Lib.hid (by have:=y9 H5.out;omega)
    have hjf:RowKit.Hid (j≤fs.length):=Lib.hid (by omega)
    go_wp2_with (first
     | (go_at_call 10;(with_reducible refine (zwD H5.out few8.out hje.out HDj.out).mono ?_);rintro e w6 ⟨rfl,H⟩;have H6:=Lib.hid H;clear H)
     | (refine Yo _ _ _ rfl rfl H6.out HDj.out rfl rfl rfl ?_;intro w7 H;have H7:=Lib.hid H;clear H))
    have HL:=Lib.hid (H7.out.grown (zij _))
    have HR:=HL.out.range
    have hj0:(0:Int)≤(j:Int):=by omega
    have hjc:(j:Int)≤(c:Int):=by have:=hjf.out;omega
    go_region_held3 (fun wx=>wx.rangeAt w6.heap.size 0 cj∧RowKit.Hid (Lw (fun c=>own w c∧c≠w6.heap.size) w wx (.pointer (some a)) (.slice q fs.length c) es fs w6.heap.size cj)) (first | exact ⟨HR,HL⟩ | exact ⟨HRy,HLy⟩) (first | (go_at_call 9;(with_reducible refine (zt9 TK.out few8.out hjf.out HDj.out HL).mono ?_);rintro e wy ⟨rfl,HLy⟩;have HRy:=HLy.out.range))
    go_wp2
    go_roundg g
    case measure=>omega
    case rel=>exact ⟨j+1,by omega,rfl,HLy.out.st.wide (fun c h=>h.1) fun c h=>h⟩
end Go.AEv
