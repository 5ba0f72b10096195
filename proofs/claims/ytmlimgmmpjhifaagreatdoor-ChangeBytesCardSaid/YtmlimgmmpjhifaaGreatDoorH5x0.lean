/- Rules out of bytes. Conditions: the lists lie in memory. -/
import Derived.Test.YtmlimgmmpjhifaaGreatDoorL5a
import Derived.Deep.RegionWith
set_option maxHeartbeats 8000000
set_option maxRecDepth 100000
set_option linter.all false
namespace Go.AEv
section
open Go Go.Proofs TR
namespace MK
open Go.AEv.GT (zO qq)
attribute [local go_sem ↓] Go.wp_at_zero Go.wp_at_succ
theorem Cc {w:World}:Calls Tryz.prog 71 #[] w (fun e w2=>e = .returned (.slice (some ⟨w.heap.size,0,none⟩) 1 1)∧w2=w.alloc (.cells #[.int .i64 0,.int .i64 30000] 147)):=by
 go_enter Tryz.func71,Tryz.ntmps71
 go_wp2
 go_ret
 exact ⟨rfl,rfl⟩
theorem Fe (wr:World) (rev:Bool):RSt wr ((wr.alloc (Obj.cells #[.int .i64 0,.int .i64 30000] 147)).alloc (Obj.cells #[.bool rev,.int .i64 0,.int .i64 0,.int .u64 0,.int .u64 0,.slice (some ⟨wr.heap.size,0,none⟩) 1 1,.int .i64 0] 141)).drew (wr.heap.size+1) rev 0 0 0 0 (some ⟨wr.heap.size,0,none⟩) 1 1 0 [(0,30000)]:=
 RSt.new (((za _ _).trans' (za _ _)).trans' (zp _)) (Nat.le_succ _) (zk (zp _) (jS (by rw [zQ]))) (zk ((za _ _).trans' (zp _)) (zn wr)) (by omega)
theorem Fc (wr:World) (rev:Bool):RSt wr ((wr.alloc (Obj.cells #[.bool rev,.int .i64 0,.int .i64 0,.int .u64 0,.int .u64 0,.slice (some ⟨wr.heap.size+1,0,none⟩) 1 1,.int .i64 0] 141)).alloc (Obj.cells #[.int .i64 0,.int .i64 30000] 147)).drew wr.heap.size rev 0 0 0 0 (some ⟨wr.heap.size+1,0,none⟩) 1 1 0 [(0,30000)]:=
 RSt.new (((za _ _).trans' (za _ _)).trans' (zp _)) (Nat.le_refl _) (zk ((za _ _).trans' (zp _)) (zn wr)) (zk (zp _) (jS (by rw [zQ]))) (by omega)
theorem fB {w:World}{p:Option Addr}{n c:Nat}{L:List Nat} (h:ByL w p n L) (few:n≤40) {q1 q2:Option Addr}{m1 m2 d1 d2:Nat}{ks1 ks2:List Int} (h1:InL w q1 m1 ks1) (h2:InL w q2 m2 ks2):Calls Tryz.prog 25 #[.slice p n c,.slice q1 m1 d1,.slice q2 m2 d2] w (Cg w):=by
 have H:=Lib.hid h
 have F:=Lib.hid few
 have H1:=Lib.hid h1
 have H2:=Lib.hid h2
 clear h few h1 h2
 go_enter Tryz.func25,Tryz.ntmps25
 go_wp2
 go_loopg [7,8] 6 (fun g out i wr=>Grown w wr∧∃ (j:Nat) (rs:List Ru),j+g=6∧i = .int .i64 (8*j:Nat)∧Rl w.heap.size wr out rs∧rs.length=j)
 case atStart=>exact ⟨RD.zL _,0,[],by omega,rfl,Rl.nil _ _,rfl⟩
 case round=>
  obtain ⟨hg,j,rs,hj,rfl,hr,hl⟩:=hrel
  have HG:=Lib.hid hg
  have HR:=Lib.hid hr
  have HL:=Lib.hid hl
  clear hg hr hl
  obtain ⟨p7,c7,e7,_,_,_⟩:=ju HR.out.row
  subst e7
  have hn40:=F.out
  by_cases hi:j<6∧8*j+8≤n
  ·obtain ⟨hj6,hi8⟩:=hi
   obtain ⟨g,rfl⟩:∃ g,gk=g+1:=⟨gk-1,by omega⟩
   have hj6':((rs.length:Nat):Int)<6:=by have:=HL.out;omega
   have hi8':((8*j:Nat):Int)+8≤n:=by omega
   obtain ⟨b,o,rfl,hc⟩:=(H.out.grown HG.out).at (j:=8*j) (by omega)
   have hlt:((atV L ((8*j:Nat):Int):Nat):Int)<256:=by have:=H.out.KQ ((8*j:Nat):Int);omega
   obtain ⟨rev,hrev⟩:∃ rev:Bool,rev=(((atV L ((8*j:Nat):Int):Nat):Int) % 4==3):=⟨_,rfl⟩
   have b0:(0:Int)≤8*(j:Int):=by omega
   have b1:8*(j:Int)<n:=by omega
   have hT:(8*(j:Int)).toNat=8*j:=by omega
   go_wp2
   go_cut [9] from 13 to 144 (fun s9 wx=>∃ (bR b3:Nat) (rev:Bool),s9 = .pointer (some ⟨bR,0,none⟩)∧RSt wr wx bR rev 0 0 0 0 (some ⟨b3,0,none⟩) 1 1 0 [(0,30000)])
   case first=>
    have hca:=fun ob=>RD.ze hc (za wr ob)
    have S0:RowKit.Hid (∀ wx,Grown wr wx→wx.cell? ⟨b,o+8*j,none⟩=some (.int .u8 (atV L ((8*j:Nat):Int):Nat))):=Lib.hid (fun wx g=>RD.ze hc g)
    clear HR hca
    go_region_held3 (fun wx=>wx.cell? ⟨b,o+8*j,none⟩=some (.int .u8 (atV L ((8*j:Nat):Int):Nat))) (first | with_reducible exact hc | (refine S0.out _ ?_;repeat (first | with_reducible exact RD.zL _ | (with_reducible refine Grown.trans' ?_ (za _ _)) | (with_reducible refine Grown.trans' ?_ (zp _)))))
     ((go_at_call 71;(with_reducible refine Cc.mono ?_);rintro e w5 ⟨rfl,rfl⟩))
    all_goals (
     dsimp only [Exit.then]
     go_wp2_with fail
     go_meet)
    case rel=>exact ⟨_,_,_,rfl,Fe wr _⟩
    case rel=>exact ⟨_,_,_,rfl,Fc wr _⟩
   case rest=>
    obtain ⟨bR,b3,rev,rfl,hst⟩:=hcut
    obtain ⟨wO,rfl⟩:∃ wO,wO=wr:=⟨wr,rfl⟩
    have R5:=Lib.hid hst
    have G5:=Lib.hid (HG.out.trans' hst.g)
    have BW:=Lib.hid (Nat.le_trans HG.out.size hst.hb)
    clear hst
    obtain ⟨⟨x0,x1,x2,_⟩,y0,y1,y2,_⟩:=R5.out.cells
    have a1:=H.out.KQ (8*(j:Int)+1)
    have a2:=H.out.KQ (8*(j:Int)+2)
    obtain ⟨bb1,o1,k1,rfl,e1,kl1,kh1⟩:=(H1.out.grown G5.out).at (atV L (8*(j:Int)+1))
    obtain ⟨bb2,o2,k2,rfl,e2,kl2,kh2⟩:=(H2.out.grown (iW (k:=2) (v:=.int .i64 k1) G5.out BW.out)).at (atV L (8*(j:Int)+2))
    have mp1:=H1.out.pos
    have mp2:=H2.out.pos
    have mf1:=H1.out.few
    have mf2:=H2.out.few
    have bm1:((atV L (8*(j:Int)+1):Nat):Int) % (m1:Int)<m1:=Int.emod_lt_of_pos _ (by omega)
    have bm2:((atV L (8*(j:Int)+2):Nat):Int) % (m2:Int)<m2:=Int.emod_lt_of_pos _ (by omega)
    have bn1:0≤((atV L (8*(j:Int)+1):Nat):Int) % (m1:Int):=Int.emod_nonneg _ (by omega)
    have bn2:0≤((atV L (8*(j:Int)+2):Nat):Int) % (m2:Int):=Int.emod_nonneg _ (by omega)
    go_wp2_with (first
     | (go_at_call 72;(with_reducible refine (Vx (H.out.grown G5.out) (by omega)).mono ?_);rintro e wy ⟨rfl,rfl⟩)
     | (go_at_call 72;(with_reducible refine (Vx (H.out.grown (iW G5.out BW.out)) (by omega)).mono ?_);rintro e wy ⟨rfl,rfl⟩))
    go_loopg [10] 4 (fun g kv wi=>∃ (kk:Nat) (yes no:Int),kk+g=4∧kv = .int .i64 kk∧RSt wO wi bR rev k2 k1 yes no (some ⟨b3,0,none⟩) 1 1 0 [(0,30000)])
    case atStart=>exact ⟨0,0,0,by omega,rfl,(R5.out.set k1).1.set k2 |>.2.1⟩
    case round=>
     obtain ⟨kk,yes,no,hkk,rfl,hst⟩:=hrel
     have RI:=Lib.hid hst
     have GA:=Lib.hid (HG.out.trans' hst.g)
     clear hst G5 R5 x0 y0 x1 y1 x2 y2 a1 a2 bm1 bm2 bn1 bn2 e1 e2
     by_cases hin:(kk:Int)<((atV L (8*(j:Int)+3):Nat):Int) % 4∧rev=false
     ·obtain ⟨hlt,rfl⟩:=hin
      obtain ⟨⟨x0,_,_,x3,x4,_,_⟩,y0,_,_,y3,y4,_,_⟩:=RI.out.cells
      have a3:=H.out.KQ (8*(j:Int)+3)
      have m3:((atV L (8*(j:Int)+3):Nat):Int) % 4<4:=Int.emod_lt_of_pos _ (by omega)
      obtain ⟨g2,rfl⟩:∃ g2,gk=g2+1:=⟨gk-1,by omega⟩
      have a4:=H.out.KQ (8*(j:Int)+4+kk)
      obtain ⟨bb1',o1',kx,e,e1,kl3,kh3⟩:=(H1.out.grown GA.out).at (atV L (8*(j:Int)+4+kk))
      cases e
      have bm1:((atV L (8*(j:Int)+4+kk):Nat):Int) % (m1:Int)<m1:=Int.emod_lt_of_pos _ (by omega)
      have bn1:0≤((atV L (8*(j:Int)+4+kk):Nat):Int) % (m1:Int):=Int.emod_nonneg _ (by omega)
      go_wp2_with (first
       | (go_at_call 72;(with_reducible refine (Vx (H.out.grown GA.out) (by omega)).mono ?_);rintro e wy ⟨rfl,rfl⟩)
       | (go_at_call 73;(with_reducible refine lL.mono ?_);rintro e w3 ⟨b3',rfl,rfl⟩;cases b3'))
      ·go_big_region
       generalize IntKind.u64.wrap (2 ^ kx.toNat)=zs
       generalize bits BinOp.or IntKind.u64 no zs=zz
       dsimp only [Exit.inBlock,Exit.then]
       have R4:=Lib.hid ((RI.out.set zz).2.2.2.1.grown (zp _))
       generalize (World.setCell _ ⟨bR,4,none⟩ (.int .u64 zz)).drew=wn at R4 ⊢
       clear RI x0 y0 x3 y3 x4 y4 GA
       go_wp2
       go_roundg g2
       case measure=>omega
       case rel=>exact ⟨kk+1,yes,zz,by omega,(by first | rfl | (rw [show RowKit.wrap64 ((kk:Int)+1)=(kk:Int)+1 by unfold RowKit.wrap64;omega];rfl)),R4.out⟩
      ·go_big_region
       generalize IntKind.u64.wrap (2 ^ kx.toNat)=zs
       generalize bits BinOp.or IntKind.u64 yes zs=zz
       dsimp only [Exit.inBlock,Exit.then]
       have R4:=Lib.hid ((RI.out.set zz).2.2.1.grown (zp _))
       generalize (World.setCell _ ⟨bR,3,none⟩ (.int .u64 zz)).drew=wn at R4 ⊢
       clear RI x0 y0 x3 y3 x4 y4 GA
       go_wp2
       go_roundg g2
       case measure=>omega
       case rel=>exact ⟨kk+1,zz,no,by omega,(by first | rfl | (rw [show RowKit.wrap64 ((kk:Int)+1)=(kk:Int)+1 by unfold RowKit.wrap64;omega];rfl)),R4.out⟩
      ·go_roundg g2
       case measure=>omega
       case rel=>exact ⟨kk+1,yes,no,by omega,(by first | rfl | (rw [show RowKit.wrap64 ((kk:Int)+1)=(kk:Int)+1 by unfold RowKit.wrap64;omega];rfl)),RI.out⟩
     ·have a3:=H.out.KQ (8*(j:Int)+3)
      have m3:((atV L (8*(j:Int)+3):Nat):Int) % 4<4:=Int.emod_lt_of_pos _ (by omega)
      have a7:=H.out.KQ (8*(j:Int)+7)
      have hin2:(((atV L (8*(j:Int)+3):Nat):Int) % 4≤(kk:Int))∨((kk:Int)<((atV L (8*(j:Int)+3):Nat):Int) % 4∧rev=true):=by
       cases rev with
       | true=>exact (Int.lt_or_le _ _).elim (fun h=>.inr ⟨h,rfl⟩) .inl
       | false=>exact .inl (Int.not_lt.1 fun h=>hin ⟨h,rfl⟩)
      clear hin
      obtain ⟨⟨x0,_,_,_,_,_,_⟩,y0,_,_,_,_,_,_⟩:=RI.out.cells
      rcases hin2 with hlt2 | ⟨hlt2,rfl⟩
      all_goals (
       go_upto_if 112 with (first
        | (go_at_call 72;(with_reducible refine (Vx (H.out.grown GA.out) (by omega)).mono ?_);rintro e wy ⟨rfl,rfl⟩))
       go_cut [] from 13 to 144 (fun wx=>∃ (aT:Bool) (p5:Option Addr) (l5 c5:Nat) (o5:List (Int×Int)),RSt wO wx bR aT k2 k1 yes no p5 l5 c5 0 o5)
       case first=>
        obtain ⟨⟨_,_,_,_,_,x5,_⟩,_,_,_,_,_,y5,_⟩:=RI.out.cells
        go_wp2_with (first
         | (go_at_call 74;(with_reducible refine (dy (n:=2) (pk _ _ _ _ _) rfl (by decide)).mono ?_);rintro e w5 ⟨v5,o5,rfl,hs5,ho5,hg5⟩;obtain ⟨p5,c5,rfl,hw5⟩:=RI.out.when ((za _ _).trans' hg5) hs5 ho5 (za _ _).size;have W5:=Lib.hid hw5;have z5:=RD.ze x5 ((za _ _).trans' hg5);have f5:=RD.zE x5 y5 ((za _ _).trans' hg5);clear hs5 ho5 hg5 hw5))
        ·go_meet
         case rel=>exact ⟨_,_,_,_,_,W5.out⟩
        ·go_meet
         case rel=>exact ⟨_,_,_,_,_,RI.out⟩
       case rest=>
        obtain ⟨aT,p5,l5,c5,o5,hst⟩:=hcut
        have RJ:=Lib.hid hst
        clear hst x0 y0 RI
        obtain ⟨⟨x0,_,_,_,_,_,x6⟩,_,_,_,_,_,_,y6⟩:=RJ.out.cells
        go_upto_region 19 with fail
        go_cut [136] from 13 to 144 (fun s136 wx=>∃ bb:Bool,s136 = .bool bb∧RSt wO wx bR aT k2 k1 yes no p5 l5 c5 0 o5)
        case first=>
         go_wp2_with fail
         all_goals (
          go_meet
          case rel=>exact ⟨_,rfl,RJ.out⟩)
        case rest=>
         obtain ⟨bb,rfl,hst⟩:=hcut
         have RK:=Lib.hid hst
         clear hst x0 x6 y6 RJ
         obtain ⟨⟨x0,_,_,_,_,_,x6⟩,_,_,_,_,_,_,y6⟩:=RK.out.cells
         go_upto_if 136 with fail
         go_cut [] from 13 to 144 (fun wx=>∃ lg:Int,0≤lg∧lg≤30000∧RSt wO wx bR aT k2 k1 yes no p5 l5 c5 lg o5)
         case first=>
          cases bb with
          | true=>
           go_wp2_with fail
           go_meet
           case rel=>exact ⟨1+((atV L (8*(j:Int)+7):Nat):Int) % 9,by omega,by omega,(RK.out.set _).2.2.2.2⟩
          | false=>
           go_wp2_with fail
           go_meet
           case rel=>exact ⟨0,by decide,by decide,RK.out⟩
         case rest=>
          obtain ⟨lg,lg0,lg1,hst⟩:=hcut
          have RL:=Lib.hid hst
          clear hst x0 x6 y6 RK
          obtain ⟨⟨x0,x1,x2,x3,x4,x5,x6⟩,_⟩:=RL.out.cells
          have few7:RowKit.Hid (rs.length+1≤100000):=Lib.hid (by omega)
          go_wp2_with (first
           | (at_builtin;refine GT.Ve _ GT.tyR _ _ rfl rfl (HR.out.row.grown (RL.out.g.trans' (za _ _))) few7.out Nat.one_pos (HG.out.trans' (RL.out.g.trans' (za _ _))).size rfl (us:=[.bool aT,.int .i64 k2,.int .i64 k1,.int .u64 yes,.int .u64 no,.slice p5 l5 c5,.int .i64 lg]) rfl (Wc (RD.zL _)) Fi ?_;intro v' w9 hr hq hw;have HR9:=Lib.hid hr;have HW9:=Lib.hid hw;clear hr hq hw))
          go_roundg g
          case measure=>omega
          case rel=>exact ⟨GT.jq (HG.out.trans' (RL.out.g.trans' (za _ _))) (HR.out.row.grown (RL.out.g.trans' (za _ _))) HW9.out,j+1,rs++[⟨aT,k2,k1,yes,no,p5,l5,c5,lg,o5⟩],by omega,(by first | rfl | (rw [show ((8*(j+1):Nat):Int)=8*(j:Int)+8 by omega])),Rl.push (r:=⟨aT,k2,k1,yes,no,p5,l5,c5,lg,o5⟩) HR9.out rfl (HR.out.grown (RL.out.g.trans' (za _ _))) HW9.out ((RL.out.ok _ _ _ _ _ _ lg0 lg1).grown (za _ _)),by rw [List.length_append,HL.out];rfl⟩)
  ·have hl6:rs.length≤6:=by have:=HL.out;omega
   by_cases h8:8*j+8≤n
   ·exfalso
    omega
   ·have h8':¬ ((8*j:Nat):Int)+8≤n:=by omega
    go_wp2
    go_ret
    exact ⟨_,rs,rfl,HR.out,hl6,HG.out⟩
end MK
end
end Go.AEv
