/- Changes out of bytes. Conditions: the bytes lie in memory. -/
import Derived.Test.YtmlimgmmpjhifaaGreatDoorL6a
import Derived.Test.YtmlimgmmpjhifaaGreatDoorH5x0
set_option maxRecDepth 100000
set_option maxHeartbeats 8000000
set_option linter.all false
namespace Go.AEv
section
open Go Go.Proofs TR
namespace MK
open Go.AEv.GT (RwAt NewAt)
open RD (Only)
theorem ByL.take {w:World}{p:Option Addr}{n:Nat}{L:List Nat} (h:ByL w p n L) {m:Nat} (hm:m≤n):ByL w p m (L.take m):=
 ⟨by rw [List.map_take];exact h.cs.take m,by rw [List.length_take,h.len];omega,Nat.le_trans hm h.few,fun x hx=>h.lt x (List.mem_of_mem_take hx)⟩
structure MSt (w wx:World) (k0 k1 k2 k3 k4 k5:Nat) (p:Option Addr) (n c:Nat) (x:Ch):Prop where
 g:Grown w wx
 a:RowAt Tryz.prog wx (w.heap.size,0,0) 24 [.int .u8 (k0:Nat),.int .u8 (k1:Nat),.int .u8 (k2:Nat),.int .u8 (k3:Nat),.int .u8 (k4:Nat),.int .u8 (k5:Nat),.slice p n c]
 z:RowAt Tryz.prog wx (w.heap.size+1,0,0) 29 [.int .i64 0,.int .i64 0,.int .i64 0,.int .i64 0,.int .i64 0,.int .i64 0,.int .i64 0,.string ⟨#[]⟩,.string ⟨#[]⟩,.string ⟨#[]⟩,.string ⟨#[]⟩,.bool false]
 xr:RowAt Tryz.prog wx (w.heap.size+1+1,0,0) 29 x.cells
 ok:x.Ok
section
variable {w wx wy:World}{k0 k1 k2 k3 k4 k5:Nat}{p:Option Addr}{n c:Nat}{x y:Ch}
theorem MSt.grown (h:MSt w wx k0 k1 k2 k3 k4 k5 p n c x) (g:Grown wx wy):MSt w wy k0 k1 k2 k3 k4 k5 p n c x:=⟨h.g.trans' g,grown_row g h.a,grown_row g h.z,grown_row g h.xr,h.ok⟩
theorem MSt.put (h:MSt w wx k0 k1 k2 k3 k4 k5 p n c x) {e:Nat}{v:Value} (hr:RowAt Tryz.prog (wx.setCell ⟨w.heap.size+1+1,e,none⟩ v) (w.heap.size+1+1,0,0) 29 y.cells) (hy:y.Ok):MSt w (wx.setCell ⟨w.heap.size+1+1,e,none⟩ v) k0 k1 k2 k3 k4 k5 p n c y:=
 ⟨grown_set h.g (by omega),row_heap h.a (set_other_heap (by show w.heap.size≠w.heap.size+1+1;omega)),row_heap h.z (set_other_heap (by show w.heap.size+1≠w.heap.size+1+1;omega)),hr,hy⟩
theorem MSt.set7 (h:MSt w wx k0 k1 k2 k3 k4 k5 p n c x) {s:ByteArray} (hs:s.size≤20):MSt w (wx.setCell ⟨w.heap.size+1+1,7,none⟩ (.string s)) k0 k1 k2 k3 k4 k5 p n c { x with nm:=s }:=h.put (rowU_setk h.xr (k:=7) (show 7<12 by omega)) { h.ok with nm:=hs }
theorem MSt.set8 (h:MSt w wx k0 k1 k2 k3 k4 k5 p n c x) {s:ByteArray} (hs:s.size≤10000):MSt w (wx.setCell ⟨w.heap.size+1+1,8,none⟩ (.string s)) k0 k1 k2 k3 k4 k5 p n c { x with tx:=s }:=h.put (rowU_setk h.xr (k:=8) (show 8<12 by omega)) { h.ok with tx:=hs }
theorem MSt.setP (h:MSt w wx k0 k1 k2 k3 k4 k5 p n c x) {a b:ByteArray}{d:Bool} (ha:a.size≤13) (hb:b.size≤13):MSt w (((wx.setCell ⟨w.heap.size+1+1,9,none⟩ (.string a)).setCell ⟨w.heap.size+1+1,10,none⟩ (.string b)).setCell ⟨w.heap.size+1+1,11,none⟩ (.bool d)) k0 k1 k2 k3 k4 k5 p n c { x with ac:=a,pa:=b,dp:=d }:=by
 have h1:MSt w (wx.setCell ⟨w.heap.size+1+1,9,none⟩ (.string a)) k0 k1 k2 k3 k4 k5 p n c { x with ac:=a }:=h.put (rowU_setk h.xr (k:=9) (show 9<12 by omega)) { h.ok with ac:=ha }
 have h2:MSt w ((wx.setCell ⟨w.heap.size+1+1,9,none⟩ (.string a)).setCell ⟨w.heap.size+1+1,10,none⟩ (.string b)) k0 k1 k2 k3 k4 k5 p n c { x with ac:=a,pa:=b }:=h1.put (rowU_setk h1.xr (k:=10) (show 10<12 by omega)) { h1.ok with pa:=hb }
 exact h2.put (rowU_setk h2.xr (k:=11) (show 11<12 by omega)) { h2.ok with ac:=ha }
abbrev ch0 (k0 k1 k2 k3 k4 k5:Nat):Ch:=⟨1+(k0:Int) % 18,1+(k1:Int) % 6,1+(k2:Int) % 6,1+(k3:Int) % 7,1+(k4:Int) % 7,1+(k4:Int) % 4,6+(k5:Int) % 20,⟨#[]⟩,⟨#[]⟩,⟨#[]⟩,⟨#[]⟩,false⟩
theorem ch0_ok:(ch0 k0 k1 k2 k3 k4 k5).Ok:=
 ⟨by show 1≤1+(k0:Int) % 18;omega,by show 1+(k0:Int) % 18≤18;omega,by show 0≤1+(k1:Int) % 6∧1+(k1:Int) % 6≤99;omega,by show 0≤1+(k2:Int) % 6∧1+(k2:Int) % 6≤99;omega,by show 0≤1+(k3:Int) % 7∧1+(k3:Int) % 7≤99;omega,by show 0≤1+(k4:Int) % 7∧1+(k4:Int) % 7≤99;omega,by show 0≤1+(k4:Int) % 4∧1+(k4:Int) % 4≤99;omega,by show 0≤6+(k5:Int) % 20∧6+(k5:Int) % 20≤99;omega,Nat.zero_le _,Nat.zero_le _,Nat.zero_le _,Nat.zero_le _⟩
theorem ms_start:MSt w (((w.alloc (.cells #[.int .u8 (k0:Nat),.int .u8 (k1:Nat),.int .u8 (k2:Nat),.int .u8 (k3:Nat),.int .u8 (k4:Nat),.int .u8 (k5:Nat),.slice p n c] 24)).alloc (.cells #[.int .i64 0,.int .i64 0,.int .i64 0,.int .i64 0,.int .i64 0,.int .i64 0,.int .i64 0,.string ⟨#[]⟩,.string ⟨#[]⟩,.string ⟨#[]⟩,.string ⟨#[]⟩,.bool false] 29)).alloc (.cells (ch0 k0 k1 k2 k3 k4 k5).cells.toArray 29)) k0 k1 k2 k3 k4 k5 p n c (ch0 k0 k1 k2 k3 k4 k5):=
 ⟨((grown_alloc _ _).trans' (grown_alloc _ _)).trans' (grown_alloc _ _),grown_row ((grown_alloc _ _).trans' (grown_alloc _ _)) (rowU_box w),grown_row (grown_alloc _ _) (rowU_at (by rw [alloc_size])),rowU_at (by rw [alloc_size,alloc_size]),ch0_ok⟩
end
theorem MSt.wrote {w wx wy:World}{k0 k1 k2 k3 k4 k5:Nat}{p:Option Addr}{n c:Nat}{x:Ch}{v:Value}{lo m:Nat}{us:List Value} (h:MSt w wx k0 k1 k2 k3 k4 k5 p n c x) (k:Wrote v wx wy) (hv:RwAt 9 1 lo wx v m us) (hlo:w.heap.size≤lo):MSt w wy k0 k1 k2 k3 k4 k5 p n c x:=
 ⟨GT.wrote_new h.g (hv.lower hlo) k,row_wrote h.a k hv (by decide),row_wrote h.z k hv (by decide),row_wrote h.xr k hv (by decide),h.ok⟩
theorem Rl.wrote9 {w w2:World}{lo l2 n:Nat}{v u:Value}{rs:List Ru}{us:List Value} (h:Rl lo w v rs) (k:Wrote u w w2) (hv:RwAt 9 1 l2 w u n us):Rl lo w2 v rs:=
 ⟨rw_wrote h.row k hv (by decide),fun r m=>(h.ok r m).same fun a e=>by
  obtain ⟨arr,fz,hh⟩:=(h.ok r m).ty a e
  exact wrote_heap k hv (Array.getElem?_eq_some_iff.1 hh).1 (.inr ⟨arr,147,fz,hh,by decide⟩)⟩
theorem strs_cells {w:World}{b o:Nat}{ss:List ByteArray} (h:Cs w (some ⟨b,o,none⟩) (ss.map Value.string)):∀ j u,(ss.map Value.string)[j]? = some u→w.cell? ((⟨b,o,none⟩:Addr).add j)=some u:=fun j u hj=>by
 obtain ⟨b',o',e,hc⟩:=h (fun e=>by rw [e]at hj;cases hj)
 cases e
 rw [Addr.add_lit]
 exact hc j u hj
theorem strs_one {ss:List ByteArray}:∀ u∈ss.map Value.string,u.oneCell'=true:=fun u hu=>by
 obtain ⟨s,_,rfl⟩:=List.mem_map.1 hu
 rfl
theorem strL_two {w:World}{lo c:Nat}{p:Option Addr}{s1 s2:List ByteArray} (h:RwAt 9 1 lo w (.slice p (4+2) c) (4+2) (s1.map Value.string++s2.map Value.string)) (h1:s1.length=4) (h2:s2.length=2) (o1:∀ s∈s1,s.size≤12) (o2:∀ s∈s2,s.size≤12):StrL w p (4+2) (s1++s2):=
 ⟨by rw [List.length_append,h1,h2],by decide,by rw [List.map_append];exact cs_of2 h,fun s m=>(List.mem_append.1 m).elim (o1 s) (o2 s)⟩
theorem ints_new {w w2:World}{b:Nat}{l:List Int} (g:Grown (w.alloc (.cells (l.map (Value.int .i64)).toArray 3)) w2) (hb:b=w.heap.size) (hp:0<l.length) (hf:l.length≤100) (ok:∀ x∈l,0≤x∧x≤63):InL w2 (some ⟨b,0,none⟩) l.length l:=by
 subst hb
 refine ⟨fun _=>⟨_,_,rfl,fun j u hj=>?_⟩,rfl,hp,hf,ok⟩
 exact TR.cell_of_row (grown_row g (rowU_box w (z:=(l.map (Value.int .i64)).toArray) (t:=3))) (by simpa using hj)
theorem make25_call {w:World}{k0 k1 k2 k3 k4 k5:Nat}{p:Option Addr}{n c:Nat}{L:List Nat} (hB:ByL w p n L) (hcap:n≤c) (h0:k0<256) (h1:k1<256) (h2:k2<256) (h3:k3<256) (h4:k4<256) (h5:k5<256):Calls Tryz.prog 6 #[.agg #[.int .u8 (k0:Nat),.int .u8 (k1:Nat),.int .u8 (k2:Nat),.int .u8 (k3:Nat),.int .u8 (k4:Nat),.int .u8 (k5:Nat),.slice p n c]] w (ChP w):=by
 have HB:=Lib.hid hB
 have st:=ms_start (w:=w) (k0:=k0) (k1:=k1) (k2:=k2) (k3:=k3) (k4:=k4) (k5:=k5) (p:=p) (n:=n) (c:=c)
 have ST:=Lib.hid st
 clear hB st
 go_enter Tryz.func6,Tryz.ntmps6
 go_upto_if 46 with (first
  | (go_at_call 21;(with_reducible refine (word_call h4).mono ?_);rintro e w2 ⟨s2,rfl,z2,g2⟩;have S2:=Lib.hid (ST.out.grown g2);clear g2;obtain ⟨a0,a1,a2,a3,a4,a5,a6⟩:=row7 S2.out.a;obtain ⟨x0,x1,x2,x3,x4,x5,x6,x7,x8,x9,x10,x11⟩:=row12 S2.out.xr;obtain ⟨y0,y1,y2,y3,y4,y5,y6,y7,y8,y9,y10,y11⟩:=row12F S2.out.xr))
 obtain ⟨W3,hW3⟩:∃ W3,W3=w2.setCell ⟨w.heap.size+1+1,7,none⟩ (.string s2):=⟨_,rfl⟩
 have s3:=S2.out.set7 (s:=s2) (by omega)
 rw [← hW3]at s3
 rw [← hW3]
 have S3:=Lib.hid s3
 clear s3 hW3 a0 a1 a2 a3 a4 a5 a6 x0 x1 x2 x3 x4 x5 x6 x7 x8 x9 x10 x11 y0 y1 y2 y3 y4 y5 y6 y7 y8 y9 y10 y11
 go_cut [] from 4 to 98 (fun wx=>∃ x:Ch,MSt w wx k0 k1 k2 k3 k4 k5 p n c x)
 case first=>
  have a0:=(rowU_cellF (k:=0) S3.out.a rfl).1
  have a4:=(rowU_cellF (k:=4) S3.out.a rfl).1
  have x0:=(rowU_cellF (k:=0) S3.out.xr rfl).1
  obtain ⟨x7,y7⟩:=rowU_cellF (k:=7) S3.out.xr rfl
  by_cases h128:128≤k4
  ·have h128':(128:Int)≤k4:=by omega
   have s110:(⟨#[110]⟩:ByteArray).size=1:=rfl
   go_wp2_with (first
    | (go_at_call 22;(with_reducible refine (dec22_call 2 (by decide) (i:=(k4:Int)) (n:=k4) rfl (Nat.lt_of_lt_of_le h4 (by decide))).mono ?_);rintro e w4 ⟨t4,rfl,z4,rfl⟩))
   go_meet
   case rel=>exact ⟨_,S3.out.set7 (by rw [ByteArray.size_append,s110];omega)⟩
  ·have h128':¬ (128:Int)≤k4:=by omega
   go_wp2_with fail
   go_meet
   case rel=>exact ⟨_,S3.out⟩
 case rest=>
  obtain ⟨xa,hst⟩:=hcut
  have S4:=Lib.hid hst
  clear hst S3 S2 ST
  have a0:=(rowU_cellF (k:=0) S4.out.a rfl).1
  have a4:=(rowU_cellF (k:=4) S4.out.a rfl).1
  go_upto_if 59 with (first
   | (go_at_call 23;(with_reducible refine (perm_call h4).mono ?_);rintro e w5 ⟨pa,pp,pd,rfl,z5,z6,g5⟩;have S5:=Lib.hid (S4.out.grown g5);clear g5 a0 a4;obtain ⟨x0,x1,x2,x3,x4,x5,x6,x7,x8,x9,x10,x11⟩:=row12 S5.out.xr;obtain ⟨y0,y1,y2,y3,y4,y5,y6,y7,y8,y9,y10,y11⟩:=row12F S5.out.xr))
  obtain ⟨W6,hW6⟩:∃ W6,W6=((w5.setCell ⟨w.heap.size+1+1,9,none⟩ (.string pa)).setCell ⟨w.heap.size+1+1,10,none⟩ (.string pp)).setCell ⟨w.heap.size+1+1,11,none⟩ (.bool pd):=⟨_,rfl⟩
  have s6:=S5.out.setP (a:=pa) (b:=pp) (d:=pd) z5 z6
  rw [← hW6]at s6
  rw [← hW6]
  obtain ⟨xb,hxb⟩:∃ xb:Ch,xb={ xa with ac:=pa,pa:=pp,dp:=pd }:=⟨_,rfl⟩
  have hk:xa.k=xb.k:=by rw [hxb]
  rw [← hxb]at s6
  rw [hk]
  have S6:=Lib.hid s6
  clear s6 hW6 hxb hk x0 x1 x2 x3 x4 x5 x6 x7 x8 x9 x10 x11 y0 y1 y2 y3 y4 y5 y6 y7 y8 y9 y10 y11
  go_cut [] from 4 to 98 (fun wx=>∃ x:Ch,MSt w wx k0 k1 k2 k3 k4 k5 p n c x)
  case first=>
   have a0:=(rowU_cellF (k:=0) S6.out.a rfl).1
   have a6:=(rowU_cellF (k:=6) S6.out.a rfl).1
   have x0:=(rowU_cellF (k:=0) S6.out.xr rfl).1
   obtain ⟨x8,y8⟩:=rowU_cellF (k:=8) S6.out.xr rfl
   by_cases h10:xb.k=10
   ·obtain ⟨nn,hnn⟩:∃ nn:Nat,nn=min n 40:=⟨_,rfl⟩
    have hmin:min (n:Int) 40=(nn:Int):=by omega
    have n0:(0:Int)≤(nn:Int):=by omega
    have n1:(nn:Int)≤n:=by omega
    have n2:(nn:Int)≤c:=by omega
    have BT:=Lib.hid (HB.out.take (m:=nn) (by omega))
    have BN:RowKit.Hid (nn≤40):=Lib.hid (by omega)
    have G25:RowKit.Hid (Grown W6 ((W6.alloc (.cells #[.int .i64 1,.int .i64 2,.int .i64 3,.int .i64 4] 3)).alloc (.cells #[.int .i64 5,.int .i64 6] 3))):=Lib.hid ((grown_alloc _ _).trans' (grown_alloc _ _))
    have I1:RowKit.Hid (InL ((W6.alloc (.cells #[.int .i64 1,.int .i64 2,.int .i64 3,.int .i64 4] 3)).alloc (.cells #[.int .i64 5,.int .i64 6] 3)) (some ⟨W6.heap.size,0,none⟩) 4 [1,2,3,4]):=Lib.hid (ints_new (w:=W6) (l:=[1,2,3,4]) (grown_alloc _ _) rfl (by decide) (by decide) (by decide))
    have I2:RowKit.Hid (InL ((W6.alloc (.cells #[.int .i64 1,.int .i64 2,.int .i64 3,.int .i64 4] 3)).alloc (.cells #[.int .i64 5,.int .i64 6] 3)) (some ⟨W6.heap.size+1,0,none⟩) 2 [5,6]):=Lib.hid (ints_new (w:=W6.alloc (.cells #[.int .i64 1,.int .i64 2,.int .i64 3,.int .i64 4] 3)) (l:=[5,6]) (RD.grown_refl _) (by rw [alloc_size]) (by decide) (by decide) (by decide))
    have BW:=Lib.hid (BT.out.grown (S6.out.g.trans' G25.out))
    subst hnn
    go_wp2_with (first
     | (go_at_call 25;(with_reducible refine (rules_call BW.out BN.out I1.out I2.out).mono ?_);rintro e w7 ⟨v7,rs,rfl,hrl,hrn,g7⟩;have S7:=Lib.hid (S6.out.grown (G25.out.trans' g7));obtain ⟨p7,c7,rfl,_,_,_⟩:=cs_of hrl.row;have RL7:=Lib.hid hrl;have RN:=Lib.hid hrn;clear g7 hrl hrn)
     | (go_at_call 26;(with_reducible refine (names_at (s:=⟨#[114]⟩) (n:=4) (i:=4) rfl (by decide) (by decide)).mono ?_);rintro e w8 ⟨v8,ss,rfl,hst,hsl,g8⟩;obtain ⟨p8,c8,rfl,_,_,_⟩:=cs_of hst.row;have S8:=Lib.hid (S7.out.grown g8);have RL8:=Lib.hid (RL7.out.grown g8);have OS:=Lib.hid hst.ok;have hrow:=hst.row;rw [hsl]at hrow;rw [hsl];have R8:=Lib.hid (hrow.lower S7.out.g.size);have HL8:=Lib.hid hsl;clear g8 hst hrow hsl)
     | (go_at_call 26;(with_reducible refine (names_at (s:=⟨#[97]⟩) (n:=2) (i:=2) rfl (by decide) (by decide)).mono ?_);rintro e w9 ⟨v9,st,rfl,hst,htl,g9⟩;obtain ⟨p9,c9,rfl,hs9⟩:=hst.strL (by omega);have S9:=Lib.hid (S8.out.grown g9);have RL9:=Lib.hid (RL8.out.grown g9);have R9:=Lib.hid (R8.out.grown g9);have OT:=Lib.hid hst.ok;rw [htl]at hs9;rw [htl];obtain ⟨b9,o9,rfl,_⟩:=hs9.at (j:=0) (by decide);have C9:=Lib.hid hs9.cs;have HL9:=Lib.hid htl;clear g9 hst hs9 htl)
     | (at_builtin;refine GT.wp_appH _ GT.tyT _ _ rfl rfl R9.out (by decide) (by decide) S9.out.g.size rfl (us:=st.map Value.string) (by rw [List.length_map,HL9.out]) (strs_cells C9.out) strs_one ?_;intro v' wa k1 k2 k3;obtain ⟨qa,ca,rfl,_⟩:=k2;have SA:=Lib.hid (S9.out.wrote k3 R9.out (Nat.le_refl _));have RLA:=Lib.hid (RL9.out.wrote9 k3 R9.out);have LA:=Lib.hid (strL_two k1 HL8.out HL9.out OS.out OT.out);clear k1 k3)
     | (go_at_call 24;(with_reducible refine (print_call ⟨cs_of2 RLA.out.row,rfl,RN.out,RLA.out.ok⟩ LA.out).mono ?_);rintro e wb ⟨sb,rfl,zb,gb⟩;have SB:=Lib.hid (SA.out.grown gb);clear gb x8 y8;obtain ⟨x8,y8⟩:=rowU_cellF (k:=8) SB.out.xr rfl;have x0b:=(rowU_cellF (k:=0) SB.out.xr rfl).1))
    go_meet
    case rel=>exact ⟨_,SB.out.set8 (by omega)⟩
   ·have h10':(xb.k==10)=false:=beq_eq_false_iff_ne.2 h10
    go_wp2_with fail
    go_meet
    case rel=>exact ⟨_,S6.out⟩
  case rest=>
   obtain ⟨xc,hst⟩:=hcut
   have SC:=Lib.hid hst
   clear hst S6 S5 S4
   have a0:=(rowU_cellF (k:=0) SC.out.a rfl).1
   have x0:=(rowU_cellF (k:=0) SC.out.xr rfl).1
   go_upto_if 77 with fail
   go_cut [] from 4 to 98 (fun wx=>∃ x:Ch,MSt w wx k0 k1 k2 k3 k4 k5 p n c x)
   case first=>
    have a6:=(rowU_cellF (k:=6) SC.out.a rfl).1
    obtain ⟨x8,y8⟩:=rowU_cellF (k:=8) SC.out.xr rfl
    by_cases h11:xc.k=11
    ·have BC:=Lib.hid (HB.out.grown SC.out.g)
     go_wp2_with (first
      | (go_at_call 27;(with_reducible refine (constraints_call BC.out hcap).mono ?_);rintro e wb ⟨sb,rfl,zb,gb⟩;have SB:=Lib.hid (SC.out.grown gb);clear gb x8 y8 x0;obtain ⟨x8,y8⟩:=rowU_cellF (k:=8) SB.out.xr rfl;have x0b:=(rowU_cellF (k:=0) SB.out.xr rfl).1))
     go_meet
     case rel=>exact ⟨_,SB.out.set8 (by omega)⟩
    ·have h11':(xc.k==11)=false:=beq_eq_false_iff_ne.2 h11
     go_wp2_with fail
     go_meet
     case rel=>exact ⟨_,SC.out⟩
   case rest=>
    obtain ⟨xd,hst⟩:=hcut
    have SD:=Lib.hid hst
    clear hst SC
    have a0:=(rowU_cellF (k:=0) SD.out.a rfl).1
    have a5:=(rowU_cellF (k:=5) SD.out.a rfl).1
    have x0:=(rowU_cellF (k:=0) SD.out.xr rfl).1
    have x8:=(rowU_cellF (k:=8) SD.out.xr rfl).1
    have hz8:=SD.out.ok.tx
    go_upto_region 10 with fail
    go_cut [90] from 4 to 98 (fun s90 wx=>∃ bb:Bool,s90 = .bool bb∧(bb=true→3<xd.tx.size)∧MSt w wx k0 k1 k2 k3 k4 k5 p n c xd)
    case first=>
     by_cases h250:250≤k5
     ·have h250':(250:Int)≤k5:=by omega
      by_cases h3:3<xd.tx.size
      ·have h3':(3:Int)<xd.tx.size:=by omega
       go_wp2_with fail
       go_meet
       case rel=>exact ⟨_,rfl,fun _=>h3,SD.out⟩
      ·have h3':¬ (3:Int)<xd.tx.size:=by omega
       go_wp2_with fail
       go_meet
       case rel=>exact ⟨_,rfl,fun h=>(by simp at h),SD.out⟩
     ·have h250':¬ (250:Int)≤k5:=by omega
      go_wp2_with fail
      go_meet
      case rel=>exact ⟨_,rfl,fun h=>(by simp at h),SD.out⟩
    case rest=>
     obtain ⟨bb,rfl,hbb,hst⟩:=hcut
     have SE:=Lib.hid hst
     have HBB:=Lib.hid hbb
     clear hst hbb SD a0 a5 x0 x8
     go_upto_if 90 with fail
     go_cut [] from 4 to 98 (fun wx=>∃ x:Ch,MSt w wx k0 k1 k2 k3 k4 k5 p n c x)
     case first=>
      have x0:=(rowU_cellF (k:=0) SE.out.xr rfl).1
      obtain ⟨x8,y8⟩:=rowU_cellF (k:=8) SE.out.xr rfl
      cases bb with
      | true=>
       have h3:=HBB.out rfl
       have h3':(3:Int)≤xd.tx.size:=by omega
       go_wp2_with fail
       go_meet
       case rel=>exact ⟨_,SE.out.set8 (by rw [ByteArray.size_extract];omega)⟩
      | false=>
       go_wp2_with fail
       go_meet
       case rel=>exact ⟨_,SE.out⟩
     case rest=>
      obtain ⟨xf,hst⟩:=hcut
      have SF:=Lib.hid hst
      clear hst SE
      obtain ⟨x0,x1,x2,x3,x4,x5,x6,x7,x8,x9,x10,x11⟩:=row12 SF.out.xr
      go_wp2_with (first
       | (go_at_call 28;(with_reducible refine (only_call SF.out.ok).mono ?_);rintro e w8 ⟨xg,rfl,okg,g8⟩;have SG:=Lib.hid (SF.out.grown g8);have OKG:=Lib.hid okg;clear g8 x0 x1 x2 x3 x4 x5 x6 x7 x8 x9 x10 x11)
       | (refine wp_storeW _ _ info29c SG.out.z rfl rfl (cs:=Ch.cells xg) (one12 _) rfl rfl rfl rfl ?_;intro w9 k1 k2;have R9:=Lib.hid k1;have O9:=Lib.hid k2;clear k1 k2))
      refine bodyPost_ret (results_cell_mid (p:=2) (ty:=29) rfl _ _ (w.heap.size+1) _ _ rfl (row_range R9.out) under29c rfl info29c) rfl ?_
      exact ⟨xg,rfl,OKG.out,grown_onlyN SG.out.g O9.out (by omega)⟩
end MK
end
end Go.AEv
