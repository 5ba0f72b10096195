/- The law of reading holds: its call. Conditions: the package variables hold what they should, the parameters lie in memory. -/
import Derived.Test.YtmlimgmmpjhifaaGreatDoorL10a
set_option maxHeartbeats 8000000
set_option maxRecDepth 100000
set_option linter.all false
namespace Go.AEv
section
open Go Go.Proofs TR
open Go.AuditPlain (put putBytes putFlag)
namespace MK
theorem cut_facts {s n c:Nat} (hn:0<n) (hc:n≤c):¬ ((n:Int)=0)∧n≠0∧((s:Int) % (n:Int)=((s % n:Nat):Int))∧s % n<n∧s % n≤c:=by
 have h:s % n<n:=Nat.mod_lt _ hn
 exact ⟨by omega,by omega,by simp,h,by omega⟩
theorem bs_set {w0 w:World}{v u:Value}{L:List Nat}{b j:Nat} (h:Bs w0 w v L) (hb:b<w0.heap.size) (few:L.length≤100000):∃ p c,v = .slice p L.length c∧L.length≤c∧ByL (w.setCell ⟨b,j,none⟩ u) p L.length L:=by
 obtain ⟨p,c,e,hc,hcs,_⟩:=cs_of (RwAt.setB (k:=j) (u:=u) h.row hb)
 exact ⟨p,c,e,hc,hcs,rfl,Nat.le_trans few (by decide),h.lt⟩
theorem row_byL {w:World}{x:Nat×Nat×Nat}{Q:List Nat}{n:Nat} (h:RowAt Tryz.prog w x 5 (Q.map fun x=>.int .u8 (x:Nat))) (hn:Q.length=n) (few:n≤100000) (hl:∀ y∈Q,y<256):ByL w (some ⟨x.1,x.2.1,none⟩) n Q:=
 ⟨fun _=>⟨_,_,rfl,fun _ _ hj=>TR.cell_of_row h hj⟩,hn,Nat.le_trans few (by decide),hl⟩
theorem set_map (Q:List Nat) (k z:Nat):(Q.map fun x=>Value.int .u8 (x:Nat)).set k (.int .u8 (z:Nat))=(Q.set k z).map fun x=>Value.int .u8 (x:Nat):=by rw [List.map_set]
theorem set_lt {Q:List Nat}{k z:Nat} (h:∀ y∈Q,y<256) (hz:z<256):∀ y∈Q.set k z,y<256:=fun y hy=>(List.mem_or_eq_of_mem_set hy).elim (h y) fun e=>by rw [e];exact hz
def L5 (w wx:World) (p1 p2:Option Addr) (n1 n2:Nat) (M1 M2:List Nat):Prop:=Grown w wx∧ByL wx p1 n1 M1∧ByL wx p2 n2 M2
theorem L5.drw {w wx:World}{p1 p2:Option Addr}{n1 n2:Nat}{M1 M2:List Nat} (h:L5 w wx p1 p2 n1 n2 M1 M2):L5 w wx.drew p1 p2 n1 n2 M1 M2:=⟨h.1.trans' (grown_drw _),h.2.1.grown (grown_drw _),h.2.2.grown (grown_drw _)⟩
theorem byL_in {w:World}{p:Option Addr}{n:Nat}{L:List Nat} (h:ByL w p n L):RD.In w p L:=⟨h.lt,fun hn=>by
 obtain ⟨b',o,e,hc⟩:=h.cs (fun e=>hn (List.map_eq_nil_iff.1 e))
 exact ⟨b',o,e,fun i x hx=>hc i _ (by rw [List.getElem?_map,hx];rfl)⟩⟩
abbrev zeroP:Pc:=⟨0,0,0,0,0,0,0,[],[],[],[],false⟩
def ReadQ (w:World) (M:List Nat) (e:Ending) (w2:World):Prop:=∃ (x:Pc) (er:Int),e = .returned (.tuple #[.agg x.cells.toArray,.int .i64 er])∧((er=0∧Nrm x∧1≤x.k∧M=enc x)∨(er=6∧x=zeroP))∧Grown w w2
theorem read_n {w:World}{p:Option Addr}{c0 n:Nat}{M:List Nat} (hM:ByL w p n M) (few:n≤100000):Calls Tryz.prog 7 #[.slice p n c0] w (ReadQ w M):=by
 obtain rfl:=hM.len
 refine (read_call (byL_in hM) few).mono ?_
 rintro e w2 ⟨⟨x,h1,h2,h3,rfl⟩ | rfl,g⟩
 ·exact ⟨x,0,rfl,.inl ⟨rfl,h1,h2,h3⟩,g⟩
 ·exact ⟨zeroP,6,rfl,.inr ⟨rfl,rfl⟩,g⟩
theorem eq_n {w:World}{p q:Option Addr}{M:List Nat}{c d n:Nat} (h1:RD.In w p M) (h2:ByL w q n M) (hn:M≠[]) (few:n≤100000):Calls Tryz.prog 13 #[.slice p M.length c,.slice q n d] w (GrV (.bool true) w):=by
 obtain rfl:=h2.len
 exact eq13 h1 (byL_in h2) hn few
theorem enc_ne (x:Pc):enc x≠[]:=by
 intro h
 have:(enc x).length=0:=by rw [h];rfl
 unfold enc at this
 simp only [List.length_append]at this
 have h0:∀ j,(put x.k).length≤(outJ x j).length:=by
  intro j
  induction j with
  | zero=>exact Nat.le_refl _
  | succ j ih=>show _≤(outJ x j++_).length;rw [List.length_append];omega
 have:=h0 6
 have h1:1≤(put x.k).length:=by unfold put;rw [List.length_append];show 1≤_+1;omega
 omega
theorem xor_nat (x y:Nat):∃ z:Nat,bits .xor .u8 (x:Int) (y:Int)=(z:Nat)∧z<256:=by
 have h:0≤bits .xor .u8 (x:Int) (y:Int)∧bits .xor .u8 (x:Int) (y:Int)<256:=by
  unfold bits
  rw [IntKind.wrap_u8]
  exact ⟨Int.emod_nonneg _ (by decide),Int.emod_lt_of_pos _ (by decide)⟩
 exact ⟨(bits .xor .u8 (x:Int) (y:Int)).toNat,by omega,by omega⟩
theorem tabA_grown {w w2:World} (h:TabA w) (g:Grown w w2):TabA w2:=by
 obtain ⟨β,h1,h2⟩:=h
 letI:=unkU
 exact ⟨β,h1,fun p hp=>BlkRel.keep (h2 p hp) g.old⟩
theorem empty_bs {w0 w w2:World}{b:Nat} (g0:Grown w0 w) (hb:b=w.heap.size) (g:Grown (w.alloc (.cells #[] 5)) w2):Bs w0 w2 (.slice (some ⟨b,0,none⟩) 0 0) []:=by
 subst hb
 exact ⟨⟨rfl,.inr ⟨(w.heap.size,0,0),rfl,grown_row g (rowU_box w),g0.size⟩⟩,fun y hy=>(by cases hy),(g0.trans' (grown_alloc _ _)).trans' g⟩
theorem law_call {w:World}{k0 k1 k2 k3 k4 k5 s0 s1:Nat}{p pp:Option Addr}{n c m cc:Nat}{L P:List Nat} (hT:TabA w) (hB:ByL w p n L) (hcap:n≤c) (h0:k0<256) (h1:k1<256) (h2:k2<256) (h3:k3<256) (h4:k4<256) (h5:k5<256) (hs0:s0<256) (hs1:s1<256) (hP:ByL w pp m P) (hcc:m≤cc):Calls Tryz.prog 4 #[.agg #[.int .u8 (k0:Nat),.int .u8 (k1:Nat),.int .u8 (k2:Nat),.int .u8 (k3:Nat),.int .u8 (k4:Nat),.int .u8 (k5:Nat),.slice p n c],.agg #[.int .u8 (s0:Nat),.int .u8 (s1:Nat)],.slice pp m cc] w (fun e w2=>e = .returned (.bool true)∧Grown w w2):=by
 have HT:=Lib.hid hT
 have HB:=Lib.hid hB
 have HP:=Lib.hid hP
 have X3:=Lib.hid (grown_row (grown_alloc (w.alloc (.cells #[.int .u8 (k0:Nat),.int .u8 (k1:Nat),.int .u8 (k2:Nat),.int .u8 (k3:Nat),.int .u8 (k4:Nat),.int .u8 (k5:Nat),.slice p n c] 24)) (.cells #[.int .u8 (s0:Nat),.int .u8 (s1:Nat)] 46)) (rowU_box w (z:=#[.int .u8 (k0:Nat),.int .u8 (k1:Nat),.int .u8 (k2:Nat),.int .u8 (k3:Nat),.int .u8 (k4:Nat),.int .u8 (k5:Nat),.slice p n c]) (t:=24)))
 have X4:=Lib.hid (rowU_at (b:=w.heap.size+1) (w:=w.alloc (.cells #[.int .u8 (k0:Nat),.int .u8 (k1:Nat),.int .u8 (k2:Nat),.int .u8 (k3:Nat),.int .u8 (k4:Nat),.int .u8 (k5:Nat),.slice p n c] 24)) (z:=#[.int .u8 (s0:Nat),.int .u8 (s1:Nat)]) (t:=46) (by rw [alloc_size]))
 clear hT hB hP
 go_enter Tryz.func4,Tryz.ntmps4
 go_upto_region 4 with (first
  | (go_at_call 5;(with_reducible refine (awake_call (tabA_grown HT.out ((grown_alloc _ _).trans' (grown_alloc _ _)))).mono ?_);rintro e w1 ⟨rfl,hg⟩;have G1:=Lib.hid (((grown_alloc _ _).trans' (grown_alloc _ _)).trans' hg);have Y4:=Lib.hid (grown_row hg X4.out);have y3:=grown_row hg X3.out;obtain ⟨c0,c1,c2,c3,c4,c5,c6⟩:=row7 y3;clear hg y3)
  | (go_at_call 6;(with_reducible refine (make25_call (HB.out.grown G1.out) hcap h0 h1 h2 h3 h4 h5).mono ?_);rintro e w2 ⟨x,rfl,hx,hg⟩;have X2:=Lib.hid hx;have G2:=Lib.hid (G1.out.trans' hg);have Z4:=Lib.hid (grown_row hg Y4.out);clear hx hg c0 c1 c2 c3 c4 c5 c6)
  | (go_at_call 8;(with_reducible refine (bytes25_call X2.out).mono ?_);rintro e w3 ⟨pq,cq,Q,rfl,hq,hq1,hq2⟩;have Q3:=Lib.hid hq;have G3:=Lib.hid (G2.out.trans' hq.g);have V4:=Lib.hid (grown_row hq.g Z4.out);clear hq))
 obtain ⟨nq,hnq⟩:∃ nq,nq=Q.length:=⟨_,rfl⟩
 rw [← hnq]at hq1 hq2
 have Q4:RowKit.Hid (Bs w2 w3 (.slice pq nq cq) Q):=Lib.hid (by rw [hnq];exact Q3.out)
 rw [← hnq]
 clear Q3
 obtain ⟨x,hx,hxr,hxl⟩:∃ x:Nat×Nat×Nat,Value.slice pq nq cq = .slice (some ⟨x.1,x.2.1,none⟩) nq (nq+x.2.2)∧RowAt Tryz.prog w3 x 5 (Q.map fun x=>.int .u8 (x:Nat))∧w2.heap.size≤x.1:=by
  rcases Q4.out.row.ex with ⟨e,_⟩ | ⟨x,e,h⟩
  ·omega
  ·exact ⟨x,by rw [e,hnq],h⟩
 cases hx
 obtain ⟨xb,xo,xs⟩:=x
 dsimp only at hxr hxl ⊢
 have QL:RowKit.Hid (ByL w3 (some ⟨xb,xo,none⟩) nq Q):=Lib.hid (by obtain ⟨_,_,e,h,_⟩:=Q4.out.byL (by omega);cases e;rw [hnq];exact h)
 have QR:=Lib.hid hxr
 obtain ⟨hz1,hz2,hkI,hkn,hkc⟩:=cut_facts (s:=s0) (n:=nq) (c:=nq+xs) (by omega) (Nat.le_add_right _ _)
 obtain ⟨k,hk⟩:∃ k,k=s0 % nq:=⟨_,rfl⟩
 rw [← hk]at hkI hkn hkc
 have d0:=(rowU_cellF (k:=0) V4.out rfl).1
 have d0':=fun ob=>RD.cell_grown d0 (grown_alloc w3 ob)
 have HK:=Lib.hid hk
 have HN:=Lib.hid hnq
 have GW:=Lib.hid (show w.heap.size≤xb from Nat.le_trans G2.out.size hxl)
 clear hk hnq hxr hxl Q4 X4 Y4 Z4 X3 X2 G1 G2
 go_upto_region 5 with (first
  | (at_builtin;refine wp_appB (w0:=w3) (n:=k) _ _ rfl rfl (empty_bs (RD.grown_refl _) rfl (RD.grown_refl _)) ((QL.out.grown (grown_alloc _ _)).take (by omega)) (by show 0+k≤100000;omega) rfl ?_;intro v5 w5 k1 k2;have C5:=Lib.hid k1;clear k1 k2))
 have hck:([]++Q.take k).length=k:=by rw [List.nil_append,List.length_take,← HN.out];omega
 obtain ⟨xk,hxk⟩:∃ xk,Q[k]? = some xk:=⟨_,List.getElem?_eq_getElem (by rw [← HN.out];exact hkn)⟩
 obtain ⟨z,hzz,hz256⟩:=xor_nat xk s1
 have hxb:xb<w3.heap.size:=RowAt.lt QR.out
 have R5:=Lib.hid (grown_row C5.out.g QR.out)
 obtain ⟨q0,qf⟩:=rowX_cell (k:=k) (v:=.int .u8 (xk:Nat)) R5.out (by rw [List.getElem?_map,hxk];rfl)
 obtain ⟨pc,c5,e5,hc5,hb5⟩:=bs_set (j:=xo+k) (u:=.int .u8 (z:Nat)) C5.out hxb (by omega)
 rw [hck]at e5 hc5 hb5
 subst e5
 have r6:=rowX_setk (k:=k) (v:=.int .u8 (z:Nat)) R5.out (by rw [List.length_map,← HN.out];exact hkn)
 rw [set_map]at r6
 have L6:RowKit.Hid (L5 w (w5.setCell ⟨xb,xo+k,none⟩ (.int .u8 (z:Nat))) (some ⟨xb,xo,none⟩) pc nq k (Q.set k z) (Q.take k)):=Lib.hid ⟨grown_set (G3.out.trans' C5.out.g) (by have:=GW.out;omega),row_byL r6 (by rw [List.length_set,HN.out]) (by omega) (set_lt QL.out.lt hz256),hb5⟩
 have e0:=RD.cell_grown d0 C5.out.g
 have e1:=RD.cell_grown (rowU_cellF (k:=1) V4.out rfl).1 C5.out.g
 clear d0 d0' hxk r6 hb5 hck hxb C5 QR R5 QL
 go_cut [] from 18 to 79 (fun wx=>L5 w wx (some ⟨xb,xo,none⟩) pc nq k (Q.set k z) (Q.take k))
 case first=>
  have hmod:(IntKind.i64.wrap (s0:Int)).tmod (nq:Int)=(k:Int):=by
   rw [IntWalk.i64_in _ (by omega),Int.tmod_eq_emod_of_nonneg (by omega)]
   exact hkI
  have hk1:(0:Int)≤(k:Int):=by omega
  have hk2:(k:Int)<(nq:Int):=by omega
  go_region_law fail
  all_goals go_wp2
  all_goals go_meet
  all_goals first
   | exact L6.out
   | exact L6.out.drw
 case rest=>
  obtain ⟨hg,hq6,hc6⟩:=hcut
  have G6:=Lib.hid hg
  have B1:=Lib.hid hq6
  have B2:=Lib.hid hc6
  have B0:=Lib.hid (HP.out.grown hg)
  clear hg hq6 hc6 e0 e1 q0 qf L6
  go_wp2_with fail
  obtain ⟨e0,he0⟩:∃ e,e=(min (m:Int) 60).toNat:=⟨_,rfl⟩
  rw [← he0]
  have B0':=Lib.hid (B0.out.take (m:=e0) (by omega))
  have HE0:RowKit.Hid (e0≤100000):=Lib.hid (by omega)
  have HNQ:RowKit.Hid (nq≤100000):=Lib.hid (by omega)
  have HNK:RowKit.Hid (k≤100000):=Lib.hid (by omega)
  clear B0 he0
  obtain ⟨W6,hW6⟩:∃ W,W=wc.alloc (.cells #[.slice pp e0 cc,.slice (some ⟨xb,xo,none⟩) nq (nq+xs),.slice pc k c5] 22):=⟨_,rfl⟩
  have RW:RowKit.Hid (RowAt Tryz.prog W6 (wc.heap.size,0,0) 22 [.slice pp e0 cc,.slice (some ⟨xb,xo,none⟩) nq (nq+xs),.slice pc k c5]):=Lib.hid (by rw [hW6];exact rowU_box wc)
  have GW6:RowKit.Hid (Grown wc W6):=Lib.hid (by rw [hW6];exact grown_alloc _ _)
  rw [← hW6]
  clear hW6
  obtain ⟨bw,hbw⟩:∃ b,b=wc.heap.size:=⟨_,rfl⟩
  rw [← hbw]at RW
  rw [← hbw]
  clear hbw
  go_loopg [50] 3 (fun g i wx=>∃ j:Nat,j+g=3∧i = .int .i64 j∧Grown W6 wx)
  case atStart=>exact ⟨0,rfl,rfl,RD.grown_refl _⟩
  case round=>
   obtain ⟨j,hj,hi,hgr⟩:=hrel
   have GR:=Lib.hid hgr
   clear hgr
   cases gk with
   | zero=>
    obtain rfl:j=3:=by omega
    have hi':_=Value.int .i64 3:=hi
    subst hi'
    go_wp2_with fail
    go_ret
    exact ⟨rfl,G6.out.trans' (GW6.out.trans' GR.out)⟩
   | succ g=>
    have hi':_=Value.int .i64 (j:Nat):=hi
    subst hi'
    have hj3:(j:Int)<3:=by omega
    obtain ⟨pj,nj,cj,Mj,hcell,hby,hnj⟩:∃ pj nj cj Mj,([.slice pp e0 cc,.slice (some ⟨xb,xo,none⟩) nq (nq+xs),.slice pc k c5]:List Value)[j]? = some (.slice pj nj cj)∧ByL W6 pj nj Mj∧nj≤100000:=by
     have:j=0∨j=1∨j=2:=by omega
     rcases this with rfl | rfl | rfl
     ·exact ⟨_,_,_,_,rfl,B0'.out.grown GW6.out,HE0.out⟩
     ·exact ⟨_,_,_,_,rfl,B1.out.grown GW6.out,HNQ.out⟩
     ·exact ⟨_,_,_,_,rfl,B2.out.grown GW6.out,HNK.out⟩
    have y0:=(rowU_cellF (grown_row GR.out RW.out) hcell).1
    have BJ:=Lib.hid (hby.grown GR.out)
    have HJ:=Lib.hid hnj
    clear hcell hby hnj
    go_upto_if 60 with (first
     | (go_at_call 7;(with_reducible refine (read_n BJ.out HJ.out).mono ?_);rintro e w7 ⟨x7,er,rfl,hd,g7⟩;have D7:=Lib.hid hd;have G7:=Lib.hid g7;clear hd g7))
    have XR:=Lib.hid (rowU_box w7 (z:=x7.cells.toArray) (t:=34))
    have G8:=Lib.hid (GR.out.trans' (G7.out.trans' (grown_alloc w7 (.cells x7.cells.toArray 34))))
    rcases D7.out with ⟨rfl,hN,hk1,hM⟩ | ⟨rfl,rfl⟩
    ·have HN7:=Lib.hid hN
     have HM7:=Lib.hid hM
     have HB7:=Lib.hid (BJ.out.grown (G7.out.trans' (grown_alloc w7 (.cells x7.cells.toArray 34))))
     clear hN hM D7
     obtain ⟨W8,hW8⟩:∃ W,W=w7.alloc (.cells x7.cells.toArray 34):=⟨_,rfl⟩
     obtain ⟨b8,hb8⟩:∃ b,b=w7.heap.size:=⟨_,rfl⟩
     have XR':RowKit.Hid (RowAt Tryz.prog W8 (b8,0,0) 34 x7.cells):=Lib.hid (by rw [hW8,hb8];exact XR.out)
     have G8':RowKit.Hid (Grown W6 W8):=Lib.hid (by rw [hW8];exact G8.out)
     have HB8:RowKit.Hid (ByL W8 pj nj Mj):=Lib.hid (by rw [hW8];exact HB7.out)
     rw [← hW8,← hb8]
     clear hW8 hb8 XR G8 HB7 y0
     obtain ⟨x0,x1,x2,x3,x4,x5,x6,x7',x8,x9,x10,x11⟩:=row12 XR'.out
     go_wp2_with (first
      | (go_at_call 15;(with_reducible refine (check_ok HN7.out hk1).mono ?_);rintro e w9 ⟨rfl,g9⟩;have G9:=Lib.hid g9;clear g9 x0 x1 x2 x3 x4 x5 x6 x7' x8 x9 x10 x11;obtain ⟨x0,x1,x2,x3,x4,x5,x6,x7',x8,x9,x10,x11⟩:=row12 (grown_row G9.out XR'.out))
      | (go_at_call 11;(with_reducible refine (bytes11 HN7.out hk1 (by rw [← HM7.out];exact HB8.out.lt)).mono ?_);rintro e w10 ⟨p10,c10,rfl,hin,g10⟩;have I10:=Lib.hid hin;have G10:=Lib.hid (G9.out.trans' g10);clear hin g10 x0 x1 x2 x3 x4 x5 x6 x7' x8 x9 x10 x11)
      | (go_at_call 13;(with_reducible refine (eq_n I10.out (by rw [← HM7.out];exact HB8.out.grown G10.out) (enc_ne x7) HJ.out).mono ?_);rintro e w11 ⟨rfl,g11⟩;have G11:=Lib.hid (G10.out.trans' g11);clear g11))
     go_roundg g
     case measure=>omega
     case rel=>exact ⟨j+1,by omega,rfl,G8'.out.trans' G11.out⟩
    ·clear D7 y0
     have hst:str []=(⟨#[]⟩:ByteArray):=rfl
     rw [hst]
     clear hst
     go_wp2_with fail
     go_roundg g
     case measure=>omega
     case rel=>exact ⟨j+1,by omega,rfl,G8.out⟩
end MK
end
end Go.AEv
