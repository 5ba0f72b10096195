/- Trails: H5x0. Conditions: each theorem's. -/
import Derived.Test.YtaffhpgaagnjfaaGreatDoorL5a
import Derived.Laws.EntriesVeiled
import Derived.BigQuiet
import Derived.Deep.QuietTactic
set_option linter.all false
open Go.Proofs.Tryz
open Go.Proofs
set_option maxHeartbeats 40000000
set_option maxRecDepth 100000
namespace Go.AEv
variable{b:Nat}{er:Int}{w:Ea}
open Go
open Go.AuditPlain(zm)
open KT(zB)
section
open TR
namespace RD
def Hy(w0:Ea)(b g x r:Nat)(L:Eb)(vs:Ec)(v:Ei)(e:Ew)(w2:Ea):Prop:=∃er:Int,er≠0/\e = .returned v/\Dec w0 w2 b g x r L vs [] er
section
variable{w0 w:Ea}{b g x r:Nat}{L:Eb}{vs:Ec}{er:Int}
def wm(h:Dec w0 w b g x r L vs [] er)(hn:er≠0)(m:Nat){k:Int}(c:(m:Int)=k):Calls prog 91 #[.pointer (some ⟨b,0,none⟩),.int .i64 k] w (Hy w0 b g x r L vs (.int .i64 0)):=by
 subst c;refine(Cw h.at_ hn m).mono λ_ _ k=>?_;obtain⟨d,a,k2,k3,k4⟩:=k;exact⟨d,a,k2,h.only k4 k3⟩
def zdC(h:Dec w0 w b g x r [] vs [] 0)(m:Nat){k:Int}(c:(m:Int)=k)(hm:m<=9000000000000000000):Calls prog 91 #[.pointer (some ⟨b,0,none⟩),.int .i64 k] w (Hy w0 b g x r [] vs (.int .i64 0)):=by
 subst c;refine(sR h.at_ hm rfl).mono λ_ _ k=>?_;obtain⟨d,a,k2,k3,k4⟩:=k;exact⟨d,a,k2,h.only k4 k3⟩
def rK(h:Dec w0 w b g x r L vs [] er)(hn:er≠0):Calls prog 92 #[.pointer (some ⟨b,0,none⟩),.int .i64 0] w (Hy w0 b g x r L vs (.string ⟨#[]⟩)):=by
 refine(ln h.at_ hn 0).mono λ_ _ k=>?_;obtain⟨c,a,k2,k3,k4⟩:=k;exact⟨c,a,k2,h.only k4 k3⟩
def zgv(h:Dec w0 w b g x r L vs [] er)(hn:er≠0):Calls prog 93 #[.pointer (some ⟨b,0,none⟩),.int .i64 (-9223372036854775808),.int .i64 9223372036854775807] w (Hy w0 b g x r L vs (.int .i64 0)):=by
 refine(NU h.at_ hn).mono λ_ _ k=>?_;obtain⟨c,a,k2,k3,k4⟩:=k;exact⟨c,a,k2,h.only k4 k3⟩
def Pt(h:Dec w0 w b g x r L vs [] er)(hn:er≠0):Calls prog 94 #[.pointer (some ⟨b,0,none⟩)] w (Hy w0 b g x r L vs (.bool false)):=by
 refine(C4 h.at_ hn).mono λ_ _ k=>?_;obtain⟨c,a,k2,k3,k4⟩:=k;exact⟨c,a,k2,h.only k4 k3⟩
end
def xA{g:Nat}{L:Eb}(h:N w b g L er)(hn:er≠0):Calls prog 41 #[.pointer (some ⟨b,0,none⟩),.int .i64 63] w (Qj w b g L (.int .i64 0)):=uk h hn 63
def Mb{g:Nat}{L:Eb}(h:N w b g L er)(hn:er≠0):Calls prog 95 #[.pointer (some ⟨b,0,none⟩)] w (Qj w b g L (.slice none 0 0)):=by
 have H:=A h;have HN:=A hn;clear h hn;go_enter func95,ntmps95;go_wp2_with(go_at_call 41;(with_reducible refine(xA H.o HN.o).mono ?_);rintro e w1 ⟨e2,k1,rfl,k2,k3⟩;have K1:=A k1;have K2:=A k2;have K3:=A k3;clear k1 k2 k3)
 .go_loopg [3,6] 0 (λ_ out i wr=>wr=w1/\out = .slice none 0 0/\i = .int .i64 0)
  case atStart=>exact⟨rfl,rfl,rfl⟩
  case round=>
   obtain⟨rfl,rfl,rfl⟩:=hrel;go_wp2;go_ret
   exact⟨e2,K1.o,rfl,K2.o,K3.o⟩
def Cc{w0:Ea}{g x r:Nat}{L:Eb}{vs:Ec}(h:Dec w0 w b g x r L vs [] er)(hn:er≠0):Calls prog 95 #[.pointer (some ⟨b,0,none⟩)] w (Hy w0 b g x r L vs (.slice none 0 0)):=by
 refine(Mb h.at_ hn).mono λ_ _ k=>?_;obtain⟨c,a,k2,k3,k4⟩:=k;exact⟨c,a,k2,h.only k4 k3⟩
def Ti{z:Obj}:Calls prog 40 #[.slice none 0 0] (w.alloc z) (Hw (w.alloc z) []):=V9 (p:=none) (c:=0) (Yu _ none) (Nat.zero_le _)
abbrev pZ:Value:=.agg #[.int .i64 0,.int .i64 0,.string ⟨#[]⟩,.int .i64 0,.string ⟨#[]⟩,.string ⟨#[]⟩,.int .i64 0,.bool false,.int .i64 0,.slice none 0 0,.slice none 0 0,.string ⟨#[]⟩,.string ⟨#[]⟩,.bool false]
def zeT(w:Ea)(e:Ew)(w2:Ea):Prop:=e = .returned (.tuple #[pZ,.bool false])/\Grown w w2
def PU(w:Ea):Calls prog 42 #[.slice none 0 0] w (zeT w):=by
 go_enter func42,ntmps42
 go_wp2_with(first
  | (go_at_call 40;(with_reducible refine Ti.mono ?_);rintro e w0 ⟨b,g,rfl,kb,kg,kn,ka,kr,_⟩;have D0:=A (oV (L:=[]) kb kg kn ka kr);clear kb kg kn ka kr)
  | (go_at_call 91;(with_reducible refine(zdC (k:=4000) D0.o 4000 rfl C).mono ?_);rintro e w1 ⟨er1,hn,rfl,kd⟩;have N1:=A hn;have E1:=A (kd.set 0 (.int .i64 0) (by first|decide|(simp only[LF];decide)));obtain⟨x1,y1⟩:=zL kd (k:=0) rfl;clear kd hn)
  | (go_at_call 91;(with_reducible refine(wm (k:=2147483647) E1.o N1.o 2147483647 rfl).mono ?_);rintro e w2 ⟨er2,hn,rfl,kd⟩;have N2:=A hn;have E2:=A (kd.set 1 (.int .i64 0) (by first|decide|(simp only[LF];decide)));obtain⟨x2,y2⟩:=zL kd (k:=1) rfl;clear kd hn)
  | (go_at_call 92;(with_reducible refine(rK E2.o N2.o).mono ?_);rintro e w3 ⟨er3,hn,rfl,kd⟩;have N3:=A hn;have E3:=A (kd.set 2 (.string ⟨#[]⟩) (by first|decide|(simp only[LF];decide)));obtain⟨x3,y3⟩:=zL kd (k:=2) rfl;clear kd hn)
  | (go_at_call 93;(with_reducible refine(zgv E3.o N3.o).mono ?_);rintro e w4 ⟨er4,hn,rfl,kd⟩;have N4:=A hn;have E4:=A (kd.set 3 (.int .i64 0) (by first|decide|(simp only[LF];decide)));obtain⟨x4,y4⟩:=zL kd (k:=3) rfl;clear kd hn)
  | (go_at_call 92;(with_reducible refine(rK E4.o N4.o).mono ?_);rintro e w5 ⟨er5,hn,rfl,kd⟩;have N5:=A hn;have E5:=A (kd.set 4 (.string ⟨#[]⟩) (by first|decide|(simp only[LF];decide)));obtain⟨x5,y5⟩:=zL kd (k:=4) rfl;clear kd hn)
  | (go_at_call 92;(with_reducible refine(rK E5.o N5.o).mono ?_);rintro e w6 ⟨er6,hn,rfl,kd⟩;have N6:=A hn;have E6:=A (kd.set 5 (.string ⟨#[]⟩) (by first|decide|(simp only[LF];decide)));obtain⟨x6,y6⟩:=zL kd (k:=5) rfl;clear kd hn)
  | (go_at_call 91;(with_reducible refine(wm (k:=30000) E6.o N6.o 30000 rfl).mono ?_);rintro e w7 ⟨er7,hn,rfl,kd⟩;have N7:=A hn;have E7:=A (kd.set 6 (.int .i64 0) (by first|decide|(simp only[LF];decide)));obtain⟨x7,y7⟩:=zL kd (k:=6) rfl;clear kd hn)
  | (go_at_call 94;(with_reducible refine(Pt E7.o N7.o).mono ?_);rintro e w8 ⟨er8,hn,rfl,kd⟩;have N8:=A hn;have E8:=A (kd.set 7 (.bool false) (by first|decide|(simp only[LF];decide)));obtain⟨x8,y8⟩:=zL kd (k:=7) rfl;clear kd hn)
  | (go_at_call 91;(with_reducible refine(wm (k:=256) E8.o N8.o 256 rfl).mono ?_);rintro e w9 ⟨er9,hn,rfl,kd⟩;have N9:=A hn;have E9:=A (kd.set 8 (.int .i64 0) (by first|decide|(simp only[LF];decide)));obtain⟨x9,y9⟩:=zL kd (k:=8) rfl;clear kd hn)
  | (go_at_call 95;(with_reducible refine(Cc E9.o N9.o).mono ?_);rintro e w10 ⟨er10,hn,rfl,kd⟩;have N10:=A hn;have E10:=A (kd.set 9 (.slice none 0 0) (by first|decide|(simp only[LF];decide)));obtain⟨x10,y10⟩:=zL kd (k:=9) rfl;clear kd hn)
  | (go_at_call 95;(with_reducible refine(Cc E10.o N10.o).mono ?_);rintro e w11 ⟨er11,hn,rfl,kd⟩;have N11:=A hn;have E11:=A (kd.set 10 (.slice none 0 0) (by first|decide|(simp only[LF];decide)));obtain⟨x11,y11⟩:=zL kd (k:=10) rfl;clear kd hn)
  | (go_at_call 92;(with_reducible refine(rK E11.o N11.o).mono ?_);rintro e w12 ⟨er12,hn,rfl,kd⟩;have N12:=A hn;have E12:=A (kd.set 11 (.string ⟨#[]⟩) (by first|decide|(simp only[LF];decide)));obtain⟨x12,y12⟩:=zL kd (k:=11) rfl;clear kd hn)
  | (go_at_call 92;(with_reducible refine(rK E12.o N12.o).mono ?_);rintro e w13 ⟨er13,hn,rfl,kd⟩;have N13:=A hn;have E13:=A (kd.set 12 (.string ⟨#[]⟩) (by first|decide|(simp only[LF];decide)));obtain⟨x13,y13⟩:=zL kd (k:=12) rfl;clear kd hn)
  | (go_at_call 94;(with_reducible refine(Pt E13.o N13.o).mono ?_);rintro e w14 ⟨er14,hn,rfl,kd⟩;have N14:=A hn;have E14:=A (kd.set 13 (.bool false) (by first|decide|(simp only[LF];decide)));obtain⟨x14,y14⟩:=zL kd (k:=13) rfl;clear kd hn))
 clear x14 y14;generalize w14.setCell _ _=W at *;have cc0:=(zL E14.o (k:=0) rfl).1;obtain⟨z0,q0,f0⟩:=qQ E14.o (k:=0) C;have cc1:=(zL E14.o (k:=1) rfl).1;obtain⟨z1,q1,f1⟩:=qQ E14.o (k:=1) C;have cc2:=(zL E14.o (k:=2) rfl).1;obtain⟨z2,q2,f2⟩:=qQ E14.o (k:=2) C;have cc3:=(zL E14.o (k:=3) rfl).1;obtain⟨z3,q3,f3⟩:=qQ E14.o (k:=3) C;have cc4:=(zL E14.o (k:=4) rfl).1;obtain⟨z4,q4,f4⟩:=qQ E14.o (k:=4) C;have cc5:=(zL E14.o (k:=5) rfl).1;obtain⟨z5,q5,f5⟩:=qQ E14.o (k:=5) C;have cc6:=(zL E14.o (k:=6) rfl).1;obtain⟨z6,q6,f6⟩:=qQ E14.o (k:=6) C;have cc7:=(zL E14.o (k:=7) rfl).1;obtain⟨z7,q7,f7⟩:=qQ E14.o (k:=7) C;have cc8:=(zL E14.o (k:=8) rfl).1;obtain⟨z8,q8,f8⟩:=qQ E14.o (k:=8) C;have cc9:=(zL E14.o (k:=9) rfl).1;obtain⟨z9,q9,f9⟩:=qQ E14.o (k:=9) C;have cc10:=(zL E14.o (k:=10) rfl).1;obtain⟨z10,q10,f10⟩:=qQ E14.o (k:=10) C;have cc11:=(zL E14.o (k:=11) rfl).1;obtain⟨z11,q11,f11⟩:=qQ E14.o (k:=11) C;have cc12:=(zL E14.o (k:=12) rfl).1;obtain⟨z12,q12,f12⟩:=qQ E14.o (k:=12) C;have cc13:=(zL E14.o (k:=13) rfl).1;obtain⟨z13,q13,f13⟩:=qQ E14.o (k:=13) C;have NE:(er14==0)=false:=beq_eq_false_iff_ne.2 N14.o;all_goals(go_region_with(go_at_call 45;(with_reducible refine(xq (E14.o.at_.grown (zM _)) N14.o).mono ?_);rintro e w15 ⟨rfl,rfl⟩))
 all_goals clear cc0 cc1 cc2 cc3 cc4 cc5 cc6 cc7 cc8 cc9 cc10 cc11 cc12 cc13
 all_goals go_wp2
 all_goals(
  (try simp only[Exit.inBlock,Exit.then])
  have hd:=gC E14.o [.int .i64 0,.int .i64 0,.string ⟨#[]⟩,.int .i64 0,.string ⟨#[]⟩,.string ⟨#[]⟩,.int .i64 0,.bool false,.int .i64 0,.slice none 0 0,.slice none 0 0,.string ⟨#[]⟩,.string ⟨#[]⟩,.bool false] rfl;simp only[World.setCells,Lz,Nat.reduceAdd]at hd;refine bodyPost_ret (v:=.tuple #[pZ,.bool false]) ?_ rfl ⟨rfl,hd.1⟩
  exact nI rfl rfl hd.2.1 rfl)
end RD
end
section
open TR
namespace NV
def Xz(w:Ea)(q:Nat):Grown w (w.drewN q):=⟨λ_ _=>rfl,Lh _,rfl,rfl,rfl⟩
def ziv(s:Ee)(w:Ea)(e:Ew)(w2:Ea):Prop:=∃b:Bool,e = .returned (.bool b)/\Grown w w2/\(b=true->1<=s.size/\s.size<=12)
def FX{s:Ee}(hs:s.size<=1000000):Calls prog 76 #[.string s] w (ziv s w):=by
 have HS:=A hs;clear hs;by_cases h0:s.size=0
 .have h0':((s.size:Int)==0)=true:=by simpa using h0
  go_enter func76,ntmps76
  go_wp2
  go_ret
  exact⟨false,rfl,RD.qP _,λh=>by cases h⟩
 .by_cases h12:s.size<=12
  .have h0':((s.size:Int)==0)=false:=by simpa using h0
   have h12':decide ((12:Int)<(s.size:Int))=false:=LC I;have H12:=A h12;clear h12;go_enter func76,ntmps76
   go_wp2_with(first
    | (go_at_call 132;(with_reducible refine(TE _).mono ?_);rintro e w1 ⟨b1,c1,rfl,hg,hc⟩;have G1:=A hg;have C1:=A hc;clear hg hc)
    | (go_at_call 131;(with_reducible refine(iT C C1.o).mono ?_);rintro e w2 ⟨b2,rfl,hg⟩;have G2:=A (G1.o.trans' hg);clear hg;cases b2))
   .have hlb:(w2.alloc (Obj.cells #[Value.func (Fn.func 133) #[] #[]] 240)).cell? ⟨w2.heap.size,0,none⟩=some (.func (.func 133) #[] #[]):=by
     unfold World.cell?;rw[heap_alloc_new w2 _];rfl
    have HLB:=A hlb;clear hlb;go_loopg [22] s.size (λg i wr=>∃j:Nat,j+g=s.size/\i = .int .i64 j/\Grown (w2.alloc (Obj.cells #[Value.func (Fn.func 133) #[] #[]] 240)) wr)
    case atStart=>exact⟨0,I,rfl,RD.qP _⟩
    case round=>
     obtain⟨j,hj,rfl,hgr⟩:=hrel;have hlb3:=RD.zz HLB.o hgr;have G3:=A hgr;clear hgr
     cases gk with
     | zero=>
      have hjm:¬((j:Int)<(s.size:Int)):=by omega
      go_wp2
      go_ret
      exact⟨true,rfl,(G2.o.trans' (zc _ _)).trans' G3.o,λ_=>⟨I,H12.o⟩⟩
     | succ g=>
      have hjm:(j:Int)<(s.size:Int):=by omega
      have hjs:j<s.size:=by omega
      cases hib:fR (s[j]' hjs).toNat with
      | false=>
       go_wp2_with fail
       go_quiet (first|(go_at_call 134;exact Calls.quiet_of_same (dA hib hlb3)))
       go_wp2
       go_ret
       exact⟨false,rfl,((G2.o.trans' (zc _ _)).trans' G3.o).trans' (Xz _ _),λh=>by cases h⟩
      | true=>
       by_cases hj0:j=0
       .have hjb:((j:Int)==0)=true:=by simpa using hj0
        have HJ0:=A hj0;clear hj0
        cases hle:Vh (s[j]' hjs).toNat with
        | false=>
         go_wp2_with fail
         go_quiet (first|(go_at_call 134;exact Calls.quiet_of_same (dA hib hlb3))|(go_at_call 133;exact Calls.quiet_of_same (tq hle)))
         go_wp2
         go_ret
         exact⟨false,rfl,((G2.o.trans' (zc _ _)).trans' G3.o).trans' (Xz _ _),λh=>by cases h⟩
        | true=>
         go_wp2_with fail
         go_quiet (first|(go_at_call 134;exact Calls.quiet_of_same (dA hib hlb3))|(go_at_call 133;exact Calls.quiet_of_same (tq hle)))
         go_wp2
         go_roundg g
         case measure=>omega
         case rel=>exact⟨j+1,I,(by rw[show RowKit.wrap64 ((j:Int)+1)=(j:Int)+1 by unfold RowKit.wrap64;have:=H12.o;omega];rfl),G3.o.trans' (Xz _ _)⟩
       .have hjb:((j:Int)==0)=false:=by simpa using hj0
        have HJ0:=A hj0;clear hj0;go_wp2_with fail;go_quiet (first|(go_at_call 134;exact Calls.quiet_of_same (dA hib hlb3)))
        go_wp2
        go_roundg g
        case measure=>omega
        case rel=>exact⟨j+1,I,(by rw[show RowKit.wrap64 ((j:Int)+1)=(j:Int)+1 by unfold RowKit.wrap64;have:=H12.o;omega];rfl),G3.o.trans' (Xz _ _)⟩
   .go_ret
    exact⟨false,rfl,G2.o,λh=>by cases h⟩
  .have h0':((s.size:Int)==0)=false:=by simpa using h0
   have h12':decide ((12:Int)<(s.size:Int))=true:=Lx I;go_enter func76,ntmps76;go_wp2
   go_ret
   exact⟨false,rfl,RD.qP _,λh=>by cases h⟩
end NV
end
section
open TR
open Go.AuditPlain(put)
namespace RD
def tN{o:Nat}{L:Eb}(h:In w (some ⟨b,o,none⟩) L):∀i y,L[i]?=some y->w.cell? ⟨b,o+i,none⟩=some (.int .u8 (y:Nat)):=by
 intro i y hi;have hn:L≠[]:=λe=>by rw[e]at hi;cases hi
 obtain⟨b',a,e,hc⟩:=h.2 hn;cases e;exact hc i y hi
section
variable{Bx:Em}{w0 w wr wr2:Ea}{t want v:Ei}{es fs:List Ent}{L:Eb}
end
end RD
end
end Go.AEv
