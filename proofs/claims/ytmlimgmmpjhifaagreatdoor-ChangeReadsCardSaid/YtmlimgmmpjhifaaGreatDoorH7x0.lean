/- The bytes of a change. Conditions: none. -/
import Derived.Test.YtmlimgmmpjhifaaGreatDoorL7a
set_option maxHeartbeats 8000000
set_option maxRecDepth 100000
set_option linter.all false
namespace Go.AEv
section
open Go Go.Proofs TR
namespace MK
open Go.AEv.GT (RwAt NewAt)
attribute [local go_sem ↓] Go.wp_at_zero Go.wp_at_succ
structure YSt (w wx:World) (x:Ch) (b3:Nat) (e0 e1 e2 e3 e4 e5 e6 e7 e8:Bool):Prop where
 g:Grown w wx
 a:RowAt Tryz.prog wx (w.heap.size,0,0) 29 x.cells
 f:RowAt Tryz.prog wx (b3,0,0) 85 [.bool e0,.bool e1,.bool e2,.bool e3,.bool e4,.bool e5,.bool e6,.bool e7,.bool e8]
theorem YSt.grown {w wx wy:World}{x:Ch}{b3:Nat}{e0 e1 e2 e3 e4 e5 e6 e7 e8:Bool} (h:YSt w wx x b3 e0 e1 e2 e3 e4 e5 e6 e7 e8) (g:Grown wx wy):YSt w wy x b3 e0 e1 e2 e3 e4 e5 e6 e7 e8:=⟨h.g.trans' g,grown_row g h.a,grown_row g h.f⟩
theorem YSt.wrote {w wx wy:World}{x:Ch}{b3:Nat}{e0 e1 e2 e3 e4 e5 e6 e7 e8:Bool}{v:Value}{L:List Nat} (h:YSt w wx x b3 e0 e1 e2 e3 e4 e5 e6 e7 e8) (k:Wrote v wx wy) (hb:Bs w wx v L):YSt w wy x b3 e0 e1 e2 e3 e4 e5 e6 e7 e8:=⟨GT.wrote_new h.g hb.row k,row_wrote h.a k hb.row (by decide),row_wrote h.f k hb.row (by decide)⟩
theorem six_b {e0 e1 e2 e3 e4 e5:Bool}{j:Nat} (hj:j<6):∃ bb:Bool,([.bool e0,.bool e1,.bool e2,.bool e3,.bool e4,.bool e5]:List Value)[j]? = some (.bool bb):=by
 have:j=0∨j=1∨j=2∨j=3∨j=4∨j=5:=by omega
 rcases this with rfl | rfl | rfl | rfl | rfl | rfl<;>exact ⟨_,rfl⟩
theorem six_i {x:Ch} (h:x.Ok) {j:Nat} (hj:j<6):∃ n:Nat,([.int .i64 x.b,.int .i64 x.u,.int .i64 x.r,.int .i64 x.o,.int .i64 x.s,.int .i64 x.d]:List Value)[j]? = some (.int .i64 (n:Nat))∧n≤99:=by
 have:j=0∨j=1∨j=2∨j=3∨j=4∨j=5:=by omega
 have e:∀ i:Int,0≤i∧i≤99→∃ n:Nat,some (Value.int .i64 i)=some (.int .i64 (n:Nat))∧n≤99:=fun i hi=>⟨i.toNat,by rw [Int.toNat_of_nonneg hi.1],by omega⟩
 rcases this with rfl | rfl | rfl | rfl | rfl | rfl
 ·exact e _ h.b
 ·exact e _ h.u
 ·exact e _ h.r
 ·exact e _ h.o
 ·exact e _ h.s
 ·exact e _ h.d
theorem str_x {w0 w1:World}{v:Value}{M:List Nat} (_:Bs w0 w1 v M) {w:World}{s:ByteArray} (hs:s.size≤10000):Calls Tryz.prog 38 #[.string s] w (BsP (5+s.size) w):=str38_call hs
theorem byL_box {w:World}{y b:Nat} (hy:y<256) (hb:b=w.heap.size):ByL (w.alloc (.cells #[.int .u8 (y:Nat)] 5)) (some ⟨b,0,none⟩) 1 [y]:=by
 subst hb
 exact ⟨fun _=>⟨_,_,rfl,fun j u hj=>TR.cell_of_row (rowU_box w (z:=#[.int .u8 (y:Nat)]) (t:=5)) hj⟩,rfl,by decide,fun x m=>by rw [List.mem_singleton.1 m];exact hy⟩
def QL (w:World) (x:Ch) (b3:Nat) (e0 e1 e2 e3 e4 e5 e6 e7 e8:Bool) (K:Nat) (v:Value) (wx:World):Prop:=∃ (p:Option Addr) (c:Nat) (L:List Nat),v = .slice p L.length c∧YSt w wx x b3 e0 e1 e2 e3 e4 e5 e6 e7 e8∧Bs w wx (.slice p L.length c) L∧1≤L.length∧L.length≤K
theorem QL.app {w w7:World}{x:Ch}{b3 K K2:Nat}{e0 e1 e2 e3 e4 e5 e6 e7 e8:Bool}{v:Value}{L M:List Nat} (hb:Bs w w7 v (L++M)) (hy:YSt w w7 x b3 e0 e1 e2 e3 e4 e5 e6 e7 e8) (h1:1≤L.length) (hL:L.length≤K) (hM:M.length≤K2) (few:K+K2≤100000):QL w x b3 e0 e1 e2 e3 e4 e5 e6 e7 e8 (K+K2) v w7:=by
 have hl:(L++M).length=L.length+M.length:=List.length_append
 obtain ⟨p,c,rfl,_⟩:=hb.byL (by omega)
 exact ⟨p,c,L++M,rfl,hy,hb,by omega,by omega⟩
def YL (w:World) (x:Ch) (b3 bB bI:Nat) (e0 e1 e2 e3 e4 e5 e6 e7 e8:Bool) (g:Nat) (v i:Value) (wx:World):Prop:=∃ (j:Nat) (p:Option Addr) (c:Nat) (L:List Nat),j+g=6∧i = .int .i64 j∧v = .slice p L.length c∧YSt w wx x b3 e0 e1 e2 e3 e4 e5 e6 e7 e8∧RowAt Tryz.prog wx (bB,0,0) 4 [.bool e0,.bool e1,.bool e2,.bool e3,.bool e4,.bool e5]∧RowAt Tryz.prog wx (bI,0,0) 3 [.int .i64 x.b,.int .i64 x.u,.int .i64 x.r,.int .i64 x.o,.int .i64 x.s,.int .i64 x.d]∧Bs w wx (.slice p L.length c) L∧1≤L.length∧L.length≤5+5*j
theorem bytes25_call {w:World}{x:Ch} (hx:x.Ok):Calls Tryz.prog 8 #[.agg x.cells.toArray] w (BsP 20000 w):=by
 have HX:=Lib.hid hx
 have hk0:=hx.k0
 have hk1:=hx.k1
 clear hx
 go_enter Tryz.func8,Tryz.ntmps8
 go_wp2_with (first
  | (go_at_call 36;(with_reducible refine uses25_call.mono ?_);rintro e w2 ⟨e0,e1,e2,e3,e4,e5,e6,e7,e8,rfl,g2⟩;have Y2:RowKit.Hid (YSt w (w2.alloc (.cells #[.bool e0,.bool e1,.bool e2,.bool e3,.bool e4,.bool e5,.bool e6,.bool e7,.bool e8] 85)) x w2.heap.size e0 e1 e2 e3 e4 e5 e6 e7 e8):=Lib.hid ⟨((grown_alloc _ _).trans' g2).trans' (grown_alloc _ _),grown_row (g2.trans' (grown_alloc _ _)) (rowU_box w),rowU_box w2⟩;have c0:=(rowU_cellF (k:=0) Y2.out.a rfl).1;clear g2)
  | (go_at_call 37;(with_reducible refine (num37_call (i:=x.k) (n:=x.k.toNat) (by omega) (by omega)).mono ?_);rintro e w4 ⟨p4,c4,L4,rfl,hb,h41,h45⟩;have Y4:=Lib.hid (Y2.out.grown hb.g);have B4:=Lib.hid (hb.before Y2.out.g);clear hb c0;obtain ⟨f0,f1,f2,f3,f4,f5,f6,f7,f8⟩:=row9 Y4.out.f;obtain ⟨c0,c1,c2,c3,c4',c5,c6,c7,c8,c9,c10,c11⟩:=row12 Y4.out.a;have d0:=fun ob=>RD.cell_grown c0 (grown_alloc w4 ob);have d1:=fun ob=>RD.cell_grown c1 (grown_alloc w4 ob);have d2:=fun ob=>RD.cell_grown c2 (grown_alloc w4 ob);have d3:=fun ob=>RD.cell_grown c3 (grown_alloc w4 ob);have d4:=fun ob=>RD.cell_grown c4' (grown_alloc w4 ob);have d5:=fun ob=>RD.cell_grown c5 (grown_alloc w4 ob);have d6:=fun ob=>RD.cell_grown c6 (grown_alloc w4 ob)))
 go_loopg [4,41] 6 (fun g v i wx=>YL w x w2.heap.size w4.heap.size (w4.heap.size+1) e0 e1 e2 e3 e4 e5 e6 e7 e8 g v i wx)
 case atStart=>exact ⟨0,p4,c4,L4,rfl,rfl,rfl,Y4.out.grown ((grown_alloc _ _).trans' (grown_alloc _ _)),grown_row (grown_alloc _ _) (rowU_box w4),rowU_at (by rw [alloc_size]),B4.out.grown ((grown_alloc _ _).trans' (grown_alloc _ _)),h41,h45⟩
 case round=>
  obtain ⟨j,p5,c5',L5,hj,rfl,rfl,hy,hbr,hir,hbs,hl1,hl2⟩:=hrel
  have Y5:=Lib.hid hy
  have BR:=Lib.hid hbr
  have IR:=Lib.hid hir
  have B5:=Lib.hid hbs
  clear hy hbr hir hbs
  cases gk with
  | succ g=>
   have hj6:(j:Int)<6:=by omega
   obtain ⟨bb,hbb⟩:=six_b (e0:=e0) (e1:=e1) (e2:=e2) (e3:=e3) (e4:=e4) (e5:=e5) (j:=j) (by omega)
   obtain ⟨nn,hnn,hn1000⟩:=six_i HX.out (j:=j) (by omega)
   have xb:=(rowU_cellF BR.out hbb).1
   have xi:=(rowU_cellF IR.out hnn).1
   have few:RowKit.Hid (L5.length+5≤100000):=Lib.hid (by omega)
   clear hbb hnn
   cases bb with
   | true=>
    go_wp2_with (first
     | (go_at_call 37;(with_reducible refine (num37_call (i:=(nn:Int)) (n:=nn) rfl (by omega)).mono ?_);rintro e w6 ⟨p6,c6,L6,rfl,hb,h61,h65⟩;have Y6:=Lib.hid (Y5.out.grown hb.g);have BR6:=Lib.hid (grown_row hb.g BR.out);have IR6:=Lib.hid (grown_row hb.g IR.out);have O6:=Lib.hid (B5.out.grown hb.g);obtain ⟨_,_,e6,hm6,_⟩:=hb.byL (by omega);cases e6;have M6:=Lib.hid hm6;clear hb hm6)
     | (at_builtin;refine wp_appB _ _ rfl rfl O6.out M6.out (by have:=few.out;omega) rfl ?_;intro v' w7 k1 k2;have Y7:=Lib.hid (Y6.out.wrote k2 O6.out);have BR7:=Lib.hid (row_wrote BR6.out k2 O6.out.row (by decide));have IR7:=Lib.hid (row_wrote IR6.out k2 O6.out.row (by decide));have B7:=Lib.hid k1;clear k1 k2))
    obtain ⟨p7,c7,e7,_,_⟩:=B7.out.byL (by rw [List.length_append];have:=few.out;omega)
    subst e7
    go_roundg g
    case measure=>omega
    case rel=>exact ⟨j+1,p7,c7,L5++L6,by omega,rfl,rfl,Y7.out,BR7.out,IR7.out,B7.out,by rw [List.length_append];omega,by rw [List.length_append];omega⟩
   | false=>
    go_wp2_with fail
    go_roundg g
    case measure=>omega
    case rel=>exact ⟨j+1,p5,c5',L5,by omega,rfl,rfl,Y5.out,BR.out,IR.out,B5.out,hl1,by omega⟩
  | zero=>
   have hj6:¬ (j:Int)<6:=by omega
   have hl35:L5.length≤35:=by omega
   clear BR IR
   have f0:=(rowU_cellF (k:=0) Y5.out.f rfl).1
   have f6:=(rowU_cellF (k:=6) Y5.out.f rfl).1
   go_upto_if 56 with fail
   go_cut [4] from 6 to 90 (fun s4 wx=>QL w x w2.heap.size e0 e1 e2 e3 e4 e5 e6 e7 e8 (35+25) s4 wx)
   case first=>
    have c0:=(rowU_cellF (k:=0) Y5.out.a rfl).1
    have c7:=(rowU_cellF (k:=7) Y5.out.a rfl).1
    have hz:=HX.out.nm
    cases e6 with
    | true=>
     go_wp2_with (first
      | (go_at_call 38;(with_reducible refine (str38_call (s:=x.nm) (by omega)).mono ?_);rintro e w6 ⟨p6,c6,L6,rfl,hb,h61,h65⟩;have Y6:=Lib.hid (Y5.out.grown hb.g);have O6:=Lib.hid (B5.out.grown hb.g);obtain ⟨_,_,e6,hm6,_⟩:=hb.byL (by omega);cases e6;have M6:=Lib.hid hm6;clear hb hm6)
      | (at_builtin;refine wp_appB _ _ rfl rfl O6.out M6.out (by omega) rfl ?_;intro v' w7 k1 k2;have Y7:=Lib.hid (Y6.out.wrote k2 O6.out);have B7:=Lib.hid k1;clear k1 k2))
     go_meet
     case rel=>exact QL.app B7.out Y7.out hl1 hl35 (by omega) (by decide)
    | false=>
     go_wp2_with fail
     go_meet
     case rel=>exact ⟨p5,c5',L5,rfl,Y5.out,B5.out,hl1,by omega⟩
   case rest=>
    obtain ⟨pa,ca,La,rfl,hy,hbs,ha1,ha2⟩:=hcut
    have YA:=Lib.hid hy
    have BA:=Lib.hid hbs
    clear hy hbs Y5 B5 f0 f6
    have f0:=(rowU_cellF (k:=0) YA.out.f rfl).1
    have f7:=(rowU_cellF (k:=7) YA.out.f rfl).1
    go_upto_if 63 with fail
    go_cut [4] from 6 to 90 (fun s4 wx=>QL w x w2.heap.size e0 e1 e2 e3 e4 e5 e6 e7 e8 (60+10005) s4 wx)
    case first=>
     have c0:=(rowU_cellF (k:=0) YA.out.a rfl).1
     have c8:=(rowU_cellF (k:=8) YA.out.a rfl).1
     have hz:=HX.out.tx
     cases e7 with
     | true=>
      go_wp2_with (first
       | (go_at_call 38;(with_reducible refine (str38_call (s:=x.tx) (by omega)).mono ?_);rintro e w6 ⟨p6,c6,L6,rfl,hb,h61,h65⟩;have Y6:=Lib.hid (YA.out.grown hb.g);have O6:=Lib.hid (BA.out.grown hb.g);obtain ⟨_,_,e6,hm6,_⟩:=hb.byL (by omega);cases e6;have M6:=Lib.hid hm6;clear hb hm6)
       | (at_builtin;refine wp_appB _ _ rfl rfl O6.out M6.out (by omega) rfl ?_;intro v' w7 k1 k2;have Y7:=Lib.hid (Y6.out.wrote k2 O6.out);have B7:=Lib.hid k1;clear k1 k2))
      go_meet
      case rel=>exact QL.app B7.out Y7.out ha1 ha2 (by omega) (by decide)
     | false=>
      go_wp2_with fail
      go_meet
      case rel=>exact ⟨pa,ca,La,rfl,YA.out,BA.out,ha1,by omega⟩
    case rest=>
     obtain ⟨pc,cc,Lc,rfl,hy,hbs,hc1,hc2⟩:=hcut
     have YC:=Lib.hid hy
     have BC:=Lib.hid hbs
     clear hy hbs YA BA f0 f7
     have f0:=(rowU_cellF (k:=0) YC.out.f rfl).1
     have f8:=(rowU_cellF (k:=8) YC.out.f rfl).1
     cases e8 with
     | false=>
      go_wp2_with fail
      go_ret
      exact bsP BC.out hc1 (by omega) (by omega)
     | true=>
      have c0:=(rowU_cellF (k:=0) YC.out.a rfl).1
      have c9:=(rowU_cellF (k:=9) YC.out.a rfl).1
      have c10:=(rowU_cellF (k:=10) YC.out.a rfl).1
      have hz1:=HX.out.ac
      have hz2:=HX.out.pa
      go_wp2_with fail
      have HCC:RowKit.Hid (∀ wx,RowAt Tryz.prog wx (w.heap.size,0,0) 29 x.cells→wx.cell? ⟨w.heap.size,0,none⟩=some (.int .i64 x.k)∧wx.cell? ⟨w.heap.size,9,none⟩=some (.string x.ac)∧wx.cell? ⟨w.heap.size,10,none⟩=some (.string x.pa)):=Lib.hid (fun wx h=>⟨(rowU_cellF (k:=0) h rfl).1,(rowU_cellF (k:=9) h rfl).1,(rowU_cellF (k:=10) h rfl).1⟩)
      have YD:=Lib.hid (YC.out.grown (grown_drw _))
      have BD:=Lib.hid (BC.out.grown (grown_drw _))
      go_region_held3 (fun wx=>wx.cell? ⟨w.heap.size,0,none⟩=some (.int .i64 x.k)∧wx.cell? ⟨w.heap.size,9,none⟩=some (.string x.ac)∧wx.cell? ⟨w.heap.size,10,none⟩=some (.string x.pa))
       (first | with_reducible exact ⟨c0,c9,c10⟩ | with_reducible exact HCC.out _ YD.out.a | with_reducible exact HCC.out _ Y6.out.a | with_reducible exact HCC.out _ Y7.out.a | with_reducible exact HCC.out _ Y8.out.a | with_reducible exact HCC.out _ Y9.out.a)
       (first
        | (go_at_call 38;(with_reducible refine (str38_call (s:=x.ac) (w:=World.drew _) (by omega)).mono ?_);rintro e w6 ⟨p6,c6,L6,rfl,hb,h61,h65⟩;have Y6:=Lib.hid (YD.out.grown hb.g);have O6:=Lib.hid (BD.out.grown hb.g);obtain ⟨_,_,e6,hm6,_⟩:=hb.byL (by omega);cases e6;have M6:=Lib.hid hm6;clear hb hm6)
        | (refine step_appB (.tmp 71) (.tmp 75) (by rfl) (by rfl) O6.out M6.out (by omega) (by rfl) (by rfl) ?_;intro v7 w7 k1 k2;have Y7:=Lib.hid (Y6.out.wrote k2 O6.out);obtain ⟨p7,c7,e7,_,_⟩:=k1.byL (by rw [List.length_append];omega);rw [show (Lc++L6).length=Lc.length+L6.length from List.length_append]at e7;subst e7;have B7:=Lib.hid k1;clear k1 k2)
        | (go_at_call 38;(with_reducible refine (str_x B7.out (s:=x.pa) (by omega)).mono ?_);rintro e w8 ⟨p8,c8,L8,rfl,hb,h81,h85⟩;have Y8:=Lib.hid (Y7.out.grown hb.g);have O8:=Lib.hid (B7.out.grown hb.g);obtain ⟨_,_,e8,hm8,_⟩:=hb.byL (by omega);cases e8;have M8:=Lib.hid hm8;clear hb hm8)
        | (refine step_appB (.tmp 76) (.tmp 80) (by rfl) (by rfl) O8.out M8.out (by rw [List.length_append];omega) (by rfl) (by rfl) ?_;intro v9 w9 k1 k2;have Y9:=Lib.hid (Y8.out.wrote k2 O8.out);obtain ⟨p9,c9',e9,_,_⟩:=k1.byL (by rw [List.length_append,List.length_append];omega);rw [show (Lc++L6++L8).length=Lc.length+L6.length+L8.length by rw [List.length_append,List.length_append]]at e9;subst e9;have B9:=Lib.hid k1;clear k1 k2))
      all_goals (
       dsimp only [Exit.then]
       have c0':=(rowU_cellF (k:=0) Y9.out.a rfl).1
       have c9'':=(rowU_cellF (k:=9) Y9.out.a rfl).1
       have c11:=(rowU_cellF (k:=11) Y9.out.a rfl).1
       have hl9:(Lc++L6++L8).length=Lc.length+L6.length+L8.length:=by rw [List.length_append,List.length_append]
       cases hdp:x.dp with
       | true=>
        rw [hdp]at c11
        go_wp2_with (first
         | (at_builtin;refine wp_appB _ _ rfl rfl (B9.out.grown (grown_alloc _ _)) (byL_box (y:=1) (by decide) rfl) (by omega) rfl ?_;intro v' wz k1 _;have KZ:=Lib.hid k1;clear k1))
        go_ret
        exact bsP KZ.out (by rw [List.length_append];show 1≤_+1;omega) (by rw [List.length_append];show _+1≤20000;omega) (by decide)
       | false=>
        rw [hdp]at c11
        go_wp2_with (first
         | (at_builtin;refine wp_appB _ _ rfl rfl (B9.out.grown (grown_alloc _ _)) (byL_box (y:=0) (by decide) rfl) (by omega) rfl ?_;intro v' wz k1 _;have KZ:=Lib.hid k1;clear k1))
        go_ret
        exact bsP KZ.out (by rw [List.length_append];show 1≤_+1;omega) (by rw [List.length_append];show _+1≤20000;omega) (by decide))
end MK
end
end Go.AEv
