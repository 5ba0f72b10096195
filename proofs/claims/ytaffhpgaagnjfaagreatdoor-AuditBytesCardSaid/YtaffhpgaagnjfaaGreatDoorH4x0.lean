/- Nothing is read: the record is empty, and refused. Conditions: none. -/
import Derived.Test.YtaffhpgaagnjfaaGreatDoorH3x0
open List Go.Lib Go.Proofs.Tryz
set_option maxHeartbeats 40000000
set_option maxRecDepth 100000
namespace Go.AEv
section
open Go Go.Proofs TR
namespace RD
def zoR(w0:World)(b g x r:Nat)(L:List Nat)(vs:List Value)(v:Value)(e:Ending)(w2:World):Prop:=∃er:Int,er≠0/\e = .returned v/\Dec w0 w2 b g x r L vs [] er
section
variable{w0 w:World}{b g x r:Nat}{L:List Nat}{vs:List Value}{er:Int}
theorem zkp(h:Dec w0 w b g x r L vs [] er)(hn:er≠0)(m:Nat){k:Int}(c:(m:Int)=k):Calls prog 91 #[.pointer (some ⟨b,0,none⟩),.int .i64 k] w (zoR w0 b g x r L vs (.int .i64 0)):=by
 subst c;refine(ztg h.at_ hn m).mono fun _ _ k=>?_;obtain⟨d,a,k2,k3,k4⟩:=k;exact⟨d,a,k2,h.only k4 k3⟩
theorem zwN(h:Dec w0 w b g x r [] vs [] 0)(m:Nat){k:Int}(c:(m:Int)=k)(hm:m<=9000000000000000000):Calls prog 91 #[.pointer (some ⟨b,0,none⟩),.int .i64 k] w (zoR w0 b g x r [] vs (.int .i64 0)):=by
 subst c;refine(zql h.at_ hm rfl).mono fun _ _ k=>?_;obtain⟨d,a,k2,k3,k4⟩:=k;exact⟨d,a,k2,h.only k4 k3⟩
theorem zhn(h:Dec w0 w b g x r L vs [] er)(hn:er≠0):Calls prog 92 #[.pointer (some ⟨b,0,none⟩),.int .i64 0] w (zoR w0 b g x r L vs (.string ⟨#[]⟩)):=by
 refine(znn h.at_ hn 0).mono fun _ _ k=>?_;obtain⟨c,a,k2,k3,k4⟩:=k;exact⟨c,a,k2,h.only k4 k3⟩
theorem zzr(h:Dec w0 w b g x r L vs [] er)(hn:er≠0):Calls prog 93 #[.pointer (some ⟨b,0,none⟩),.int .i64 (-9223372036854775808),.int .i64 9223372036854775807] w (zoR w0 b g x r L vs (.int .i64 0)):=by
 refine(zw0 h.at_ hn).mono fun _ _ k=>?_;obtain⟨c,a,k2,k3,k4⟩:=k;exact⟨c,a,k2,h.only k4 k3⟩
theorem zrB(h:Dec w0 w b g x r L vs [] er)(hn:er≠0):Calls prog 94 #[.pointer (some ⟨b,0,none⟩)] w (zoR w0 b g x r L vs (.bool false)):=by
 refine(ztZ h.at_ hn).mono fun _ _ k=>?_;obtain⟨c,a,k2,k3,k4⟩:=k;exact⟨c,a,k2,h.only k4 k3⟩
end
theorem zk2{w:World}{b g:Nat}{L:List Nat}{er:Int}(h:At w b g L er)(hn:er≠0):Calls prog 41 #[.pointer (some ⟨b,0,none⟩),.int .i64 63] w (Yw w b g L (.int .i64 0)):=zrW h hn 63
theorem zpF{w:World}{b g:Nat}{L:List Nat}{er:Int}(h:At w b g L er)(hn:er≠0):Calls prog 95 #[.pointer (some ⟨b,0,none⟩)] w (Yw w b g L (.slice none 0 0)):=by
 have H:=hid h;have HN:=hid hn;clear h hn;go_enter func95,ntmps95
 go_wp2_with(go_at_call 41;(with_reducible refine(zk2 H.out HN.out).mono ?_);rintro e w1 ⟨e2,k1,rfl,k2,k3⟩;have K1:=hid k1;have K2:=hid k2;have K3:=hid k3;clear k1 k2 k3)
 .go_loopg [3,6] 0 (fun _ out i wr=>wr=w1/\out = .slice none 0 0/\i = .int .i64 0)
  case atStart=>exact⟨rfl,rfl,rfl⟩
  case round=>
   obtain⟨rfl,rfl,rfl⟩:=hrel;go_wp2
   go_ret
   exact⟨e2,K1.out,rfl,K2.out,K3.out⟩
theorem zl1{w0 w:World}{b g x r:Nat}{L:List Nat}{vs:List Value}{er:Int}(h:Dec w0 w b g x r L vs [] er)(hn:er≠0):Calls prog 95 #[.pointer (some ⟨b,0,none⟩)] w (zoR w0 b g x r L vs (.slice none 0 0)):=by
 refine(zpF h.at_ hn).mono fun _ _ k=>?_;obtain⟨c,a,k2,k3,k4⟩:=k;exact⟨c,a,k2,h.only k4 k3⟩
theorem ztp{w:World}{z:Obj}:Calls prog 40 #[.slice none 0 0] (w.alloc z) (zoQ (w.alloc z) []):=VN (p:=none) (c:=0) (zag _ none) (Nat.zero_le _)
abbrev zg1:Value:=.agg #[.int .i64 0,.int .i64 0,.string ⟨#[]⟩,.int .i64 0,.string ⟨#[]⟩,.string ⟨#[]⟩,.int .i64 0,.bool false,.int .i64 0,.slice none 0 0,.slice none 0 0,.string ⟨#[]⟩,.string ⟨#[]⟩,.bool false]
def zxI(w:World)(e:Ending)(w2:World):Prop:=e = .returned (.tuple #[zg1,.bool false])/\Grown w w2
theorem zrR(w:World):Calls prog 42 #[.slice none 0 0] w (zxI w):=by
 go_enter func42,ntmps42
 go_wp2_with(first
  | (go_at_call 40;(with_reducible refine ztp.mono ?_);rintro e w0 ⟨b,g,rfl,kb,kg,kn,ka,kr,_⟩;have D0:=hid (zmP (L:=[]) kb kg kn ka kr);clear kb kg kn ka kr)
  | (go_at_call 91;(with_reducible refine(zwN (k:=4000) D0.out 4000 rfl (by decide)).mono ?_);rintro e w1 ⟨er1,hn,rfl,kd⟩;have N1:=hid hn;have E1:=hid (kd.set 0 (.int .i64 0) (by first|decide|(simp only[length_set];decide)));obtain⟨x1,y1⟩:=zI kd (k:=0) rfl;clear kd hn)
  | (go_at_call 91;(with_reducible refine(zkp (k:=2147483647) E1.out N1.out 2147483647 rfl).mono ?_);rintro e w2 ⟨er2,hn,rfl,kd⟩;have N2:=hid hn;have E2:=hid (kd.set 1 (.int .i64 0) (by first|decide|(simp only[length_set];decide)));obtain⟨x2,y2⟩:=zI kd (k:=1) rfl;clear kd hn)
  | (go_at_call 92;(with_reducible refine(zhn E2.out N2.out).mono ?_);rintro e w3 ⟨er3,hn,rfl,kd⟩;have N3:=hid hn;have E3:=hid (kd.set 2 (.string ⟨#[]⟩) (by first|decide|(simp only[length_set];decide)));obtain⟨x3,y3⟩:=zI kd (k:=2) rfl;clear kd hn)
  | (go_at_call 93;(with_reducible refine(zzr E3.out N3.out).mono ?_);rintro e w4 ⟨er4,hn,rfl,kd⟩;have N4:=hid hn;have E4:=hid (kd.set 3 (.int .i64 0) (by first|decide|(simp only[length_set];decide)));obtain⟨x4,y4⟩:=zI kd (k:=3) rfl;clear kd hn)
  | (go_at_call 92;(with_reducible refine(zhn E4.out N4.out).mono ?_);rintro e w5 ⟨er5,hn,rfl,kd⟩;have N5:=hid hn;have E5:=hid (kd.set 4 (.string ⟨#[]⟩) (by first|decide|(simp only[length_set];decide)));obtain⟨x5,y5⟩:=zI kd (k:=4) rfl;clear kd hn)
  | (go_at_call 92;(with_reducible refine(zhn E5.out N5.out).mono ?_);rintro e w6 ⟨er6,hn,rfl,kd⟩;have N6:=hid hn;have E6:=hid (kd.set 5 (.string ⟨#[]⟩) (by first|decide|(simp only[length_set];decide)));obtain⟨x6,y6⟩:=zI kd (k:=5) rfl;clear kd hn)
  | (go_at_call 91;(with_reducible refine(zkp (k:=30000) E6.out N6.out 30000 rfl).mono ?_);rintro e w7 ⟨er7,hn,rfl,kd⟩;have N7:=hid hn;have E7:=hid (kd.set 6 (.int .i64 0) (by first|decide|(simp only[length_set];decide)));obtain⟨x7,y7⟩:=zI kd (k:=6) rfl;clear kd hn)
  | (go_at_call 94;(with_reducible refine(zrB E7.out N7.out).mono ?_);rintro e w8 ⟨er8,hn,rfl,kd⟩;have N8:=hid hn;have E8:=hid (kd.set 7 (.bool false) (by first|decide|(simp only[length_set];decide)));obtain⟨x8,y8⟩:=zI kd (k:=7) rfl;clear kd hn)
  | (go_at_call 91;(with_reducible refine(zkp (k:=256) E8.out N8.out 256 rfl).mono ?_);rintro e w9 ⟨er9,hn,rfl,kd⟩;have N9:=hid hn;have E9:=hid (kd.set 8 (.int .i64 0) (by first|decide|(simp only[length_set];decide)));obtain⟨x9,y9⟩:=zI kd (k:=8) rfl;clear kd hn)
  | (go_at_call 95;(with_reducible refine(zl1 E9.out N9.out).mono ?_);rintro e w10 ⟨er10,hn,rfl,kd⟩;have N10:=hid hn;have E10:=hid (kd.set 9 (.slice none 0 0) (by first|decide|(simp only[length_set];decide)));obtain⟨x10,y10⟩:=zI kd (k:=9) rfl;clear kd hn)
  | (go_at_call 95;(with_reducible refine(zl1 E10.out N10.out).mono ?_);rintro e w11 ⟨er11,hn,rfl,kd⟩;have N11:=hid hn;have E11:=hid (kd.set 10 (.slice none 0 0) (by first|decide|(simp only[length_set];decide)));obtain⟨x11,y11⟩:=zI kd (k:=10) rfl;clear kd hn)
  | (go_at_call 92;(with_reducible refine(zhn E11.out N11.out).mono ?_);rintro e w12 ⟨er12,hn,rfl,kd⟩;have N12:=hid hn;have E12:=hid (kd.set 11 (.string ⟨#[]⟩) (by first|decide|(simp only[length_set];decide)));obtain⟨x12,y12⟩:=zI kd (k:=11) rfl;clear kd hn)
  | (go_at_call 92;(with_reducible refine(zhn E12.out N12.out).mono ?_);rintro e w13 ⟨er13,hn,rfl,kd⟩;have N13:=hid hn;have E13:=hid (kd.set 12 (.string ⟨#[]⟩) (by first|decide|(simp only[length_set];decide)));obtain⟨x13,y13⟩:=zI kd (k:=12) rfl;clear kd hn)
  | (go_at_call 94;(with_reducible refine(zrB E13.out N13.out).mono ?_);rintro e w14 ⟨er14,hn,rfl,kd⟩;have N14:=hid hn;have E14:=hid (kd.set 13 (.bool false) (by first|decide|(simp only[length_set];decide)));obtain⟨x14,y14⟩:=zI kd (k:=13) rfl;clear kd hn))
 clear x14 y14;generalize w14.setCell _ _=W at *;have cc0:=(zI E14.out (k:=0) rfl).1;obtain⟨z0,q0,f0⟩:=qF E14.out (k:=0) (by decide);have cc1:=(zI E14.out (k:=1) rfl).1;obtain⟨z1,q1,f1⟩:=qF E14.out (k:=1) (by decide);have cc2:=(zI E14.out (k:=2) rfl).1;obtain⟨z2,q2,f2⟩:=qF E14.out (k:=2) (by decide);have cc3:=(zI E14.out (k:=3) rfl).1;obtain⟨z3,q3,f3⟩:=qF E14.out (k:=3) (by decide);have cc4:=(zI E14.out (k:=4) rfl).1;obtain⟨z4,q4,f4⟩:=qF E14.out (k:=4) (by decide);have cc5:=(zI E14.out (k:=5) rfl).1;obtain⟨z5,q5,f5⟩:=qF E14.out (k:=5) (by decide);have cc6:=(zI E14.out (k:=6) rfl).1;obtain⟨z6,q6,f6⟩:=qF E14.out (k:=6) (by decide);have cc7:=(zI E14.out (k:=7) rfl).1;obtain⟨z7,q7,f7⟩:=qF E14.out (k:=7) (by decide);have cc8:=(zI E14.out (k:=8) rfl).1;obtain⟨z8,q8,f8⟩:=qF E14.out (k:=8) (by decide);have cc9:=(zI E14.out (k:=9) rfl).1;obtain⟨z9,q9,f9⟩:=qF E14.out (k:=9) (by decide);have cc10:=(zI E14.out (k:=10) rfl).1;obtain⟨z10,q10,f10⟩:=qF E14.out (k:=10) (by decide);have cc11:=(zI E14.out (k:=11) rfl).1;obtain⟨z11,q11,f11⟩:=qF E14.out (k:=11) (by decide);have cc12:=(zI E14.out (k:=12) rfl).1;obtain⟨z12,q12,f12⟩:=qF E14.out (k:=12) (by decide);have cc13:=(zI E14.out (k:=13) rfl).1;obtain⟨z13,q13,f13⟩:=qF E14.out (k:=13) (by decide);have NE:(er14==0)=false:=beq_eq_false_iff_ne.2 N14.out;all_goals(go_region_with(go_at_call 45;(with_reducible refine(zkW (E14.out.at_.grown (JH _)) N14.out).mono ?_);rintro e w15 ⟨rfl,rfl⟩))
 all_goals clear cc0 cc1 cc2 cc3 cc4 cc5 cc6 cc7 cc8 cc9 cc10 cc11 cc12 cc13
 all_goals go_wp2
 all_goals(
  (try simp only[Exit.inBlock,Exit.then])
  have hd:=ziR E14.out [.int .i64 0,.int .i64 0,.string ⟨#[]⟩,.int .i64 0,.string ⟨#[]⟩,.string ⟨#[]⟩,.int .i64 0,.bool false,.int .i64 0,.slice none 0 0,.slice none 0 0,.string ⟨#[]⟩,.string ⟨#[]⟩,.bool false] rfl;simp only[World.setCells,Nat.zero_add,Nat.reduceAdd]at hd;refine bodyPost_ret (v:=.tuple #[zg1,.bool false]) ?_ rfl ⟨rfl,hd.1⟩
  exact zl4 rfl rfl hd.2.1 rfl)
end RD
end
end Go.AEv
