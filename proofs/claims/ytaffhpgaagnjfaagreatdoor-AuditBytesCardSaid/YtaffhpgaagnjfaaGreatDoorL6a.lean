/- Trails of an audit: calls and runs (L6a). Conditions: those of each theorem. -/
import Derived.Test.YtaffhpgaagnjfaaGreatDoorH5x0
import Derived.Test.YtaffhpgaagnjfaaGreatDoorL4a
import Derived.Test.YtaffhpgaagnjfaaGreatDoorH0x1
import Derived.Test.YtaffhpgaagnjfaaGreatDoorH0x0
import Derived.Test.YtaffhpgaagnjfaaGreatDoorTie
open List Nat Go.World Go.Lib Go.Proofs.Tryz
set_option maxHeartbeats 40000000
set_option maxRecDepth 1000000
namespace Go.AEv
section
open Go Go.Proofs TR
open Go.AuditPlain (put zt)
namespace RD
theorem zlh{s:List Nat}{m:Nat}(hs:s.length<=1000)(hm:m<=1000000){j:Nat}(a:j<(zt s).length):jS m ((zt s).take j)=none:=by
 by_cases h:s.length<=m
 .exact zoA h hm a
 .unfold jS;by_cases h1:j<(put s.length).length
  .have e:(zt s).take j=(put s.length).take j:=by unfold zt;rw[take_append_of_le_length (by omega)]
   rw[e,zmi (by omega) h1]
  .have e:(zt s).take j=put s.length++s.take (j-(put s.length).length):=by unfold zt;rw[take_append,take_of_length_le (by omega)]
   rw[e,KK (by omega)];show(if s.length<=m/\_ then _ else none)=none;rw[if_neg fun hh=>h hh.1]
theorem zcn:∀(Rs:List zy) (k:Nat),k<(qY Rs).length->∃(a j:Nat) (R:zy),Rs[a]?=some R/\j<(zt R.qi.bytes).length/\(qY Rs).take k=qY (Rs.take a)++(zt R.qi.bytes).take j
 | [],k,h=>by unfold qY at h;simp at h
 | R::Rs,k,h=>by
  rw[Jk,length_append]at h;by_cases h1:k<(zt R.qi.bytes).length
  .refine⟨0,k,R,rfl,h1,?_⟩;rw[Jk,take_append_of_le_length (by omega)];rfl
  .obtain⟨a,j,c,h2,h3,b⟩:=zcn Rs (k-(zt R.qi.bytes).length) (by omega);refine⟨a+1,j,c,h2,h3,?_⟩;rw[Jk,take_append,take_of_length_le (by omega),b,take_succ_cons,Jk,List.append_assoc]
theorem KD{n:Nat}(h:n<=8):put n=[n]:=ZE (by omega)
theorem zms(Rs:List zy)(a:Nat)(rest:List Nat):Left Rs a rest 0=qY (Rs.take a)++rest:=by unfold Left;rw[drop_zero]
theorem Wg{R:zy}:∀ {Rs:List zy},R∈Rs->R.qi.bytes.length<=(qY Rs).length
 | _::Rs,h=>by
  rw[Jk,length_append];rcases List.mem_cons.1 h with rfl|h
  .unfold zt;rw[length_append];omega
  .have:=Wg h;omega
theorem UA{Rs:List zy}(acc:∀R∈Rs,RH.Acc R)(few:Rs.length<=8):(kc Rs).length<=800/\33<=(kc Rs).length:=by
 have:=Ky acc;unfold kc;rw[length_append,length_append,ZO,KD few];simp only[length_cons,length_nil];omega
section
variable{Rs:List zy}(hist:zjt Rs)(acc:∀R∈Rs,RH.Acc R)(few:Rs.length<=8)
include hist acc few
theorem zri:kc Rs=put Rs.length++Left Rs Rs.length (jZ Rs) 0/\Inp Rs Rs.length (jZ Rs) (kc Rs).length true:=by
 have e:kc Rs=put Rs.length++Left Rs Rs.length (jZ Rs) 0:=by rw[zms,take_length];rfl
 have hl:=UA acc few;refine⟨e,hist,acc,few,Nat.le_refl _,by rw[<- e],by omega,fun h=>by omega,fun _=>.inl ⟨rfl,rfl⟩,fun R hR=>?_⟩;rw[take_length]at hR;have:=Wg hR;unfold kc;rw[length_append,length_append];omega
theorem zrh:kc Rs++[0]=put Rs.length++Left Rs Rs.length (jZ Rs++[0]) 0/\Inp Rs Rs.length (jZ Rs++[0]) ((kc Rs).length+1) false:=by
 have e:kc Rs++[0]=put Rs.length++Left Rs Rs.length (jZ Rs++[0]) 0:=by rw[zms,take_length];unfold kc;rw[List.append_assoc,List.append_assoc]
 have hl:=UA acc few;refine⟨e,hist,acc,few,Nat.le_refl _,by rw[<- e,length_append];rfl,by omega,fun h=>by omega,fun _=>.inr (.inr ⟨by rw[length_append,ZO];decide,rfl⟩),fun R hR=>?_⟩;rw[take_length]at hR;have:=Wg hR;unfold kc;rw[length_append,length_append];omega
theorem ztI{k:Nat}(m:0<k)(o:k<(kc Rs).length):∃b rest,(kc Rs).take k=put Rs.length++Left Rs b rest 0/\Inp Rs b rest k false:=by
 have hl:=UA acc few;have hlen:((kc Rs).take k).length=k:=by rw[length_take];omega
 have e:(kc Rs).take k=put Rs.length++(qY Rs++jZ Rs).take (k-1):=by
  unfold kc;rw[take_append,take_of_length_le (by rw[KD few];exact m),KD few];rfl
 by_cases h:k-1<(qY Rs).length
 .obtain⟨b,j,R,h2,h3,d⟩:=zcn Rs (k-1) h;have f:=(List.getElem?_eq_some_iff.1 h2).1;have hR:=acc R (List.mem_of_getElem? h2);have g:=Qs hR.ok hR.good hR.day
  have c:(kc Rs).take k=put Rs.length++Left Rs b ((zt R.qi.bytes).take j) 0:=by
   rw[e,zms,<- d,take_append_of_le_length (by omega)]
  refine⟨b,_,c,hist,acc,few,by omega,by rw[<- c];exact hlen,by omega,fun _=>⟨zlh (by omega) (by omega) h3,rfl⟩,fun h=>by omega,fun n a=>?_⟩;have l:=Wg a;have i:(qY (Rs.take b)).length<=((qY Rs).take (k-1)).length:=by rw[d,length_append];omega
  rw[length_take]at i;omega
 .have c:(kc Rs).take k=put Rs.length++Left Rs Rs.length ((jZ Rs).take (k-1-(qY Rs).length)) 0:=by
   rw[e,zms,take_length,take_append,take_of_length_le (by omega)]
  have p:(kc Rs).length=1+(qY Rs).length+32:=by
   unfold kc;rw[length_append,length_append,ZO,KD few];simp only[length_cons,length_nil];omega
  refine⟨Rs.length,_,c,hist,acc,few,Nat.le_refl _,by rw[<- c];exact hlen,by omega,fun h=>by omega,fun _=>.inr (.inl ⟨by rw[length_take,ZO];omega,rfl⟩),fun n a=>?_⟩;rw[take_length]at a;have l:=Wg a;omega
end
end RD
end
section
open Go Go.Proofs TR
namespace RD
structure Er(w0 w:World)(b g:Nat)(L:List Nat)(er:Int):Prop where
 at_:At w b g L er
 gr:Grown w0 w
 b0:w0.heap.size<=b
theorem Er.only{w0 w w2:World}{b g:Nat}{L L':List Nat}{er a:Int}(h:Er w0 w b g L er)(k:j6 b w w2)(d:At w2 b g L' a):Er w0 w2 b g L' a:=
 ⟨d,⟨fun c hc=>by rw[k.old c (Nat.lt_of_lt_of_le hc h.gr.size) (by have:=h.b0;omega),h.gr.old c hc],Nat.le_trans h.gr.size k.size,k.tape.trans h.gr.tape,k.os.trans h.gr.os,k.output.trans h.gr.output⟩,h.b0⟩
theorem Er.grown{w0 w w2:World}{b g:Nat}{L:List Nat}{er:Int}(h:Er w0 w b g L er)(k:Grown w w2):Er w0 w2 b g L er:=⟨h.at_.grown k,h.gr.trans' k,h.b0⟩
def ErP(w0:World)(b g:Nat)(L:List Nat)(v:Value)(e:Ending)(w2:World):Prop:=∃er:Int,er≠0/\e = .returned v/\Er w0 w2 b g L er
section
variable{w0 w:World}{b g:Nat}{L:List Nat}{er:Int}
theorem zrU(h:Er w0 w b g L 0)(c:uintR 4000 L=none):Calls prog 41 #[.pointer (some ⟨b,0,none⟩),.int .i64 4000] w (ErP w0 b g L (.int .i64 0)):=by
 refine Calls.mono (zop (m:=4000) h.at_ (by decide) c) fun e w2 k=>?_;obtain⟨er,a,k2,k3,k4⟩:=k;exact⟨er,a,k2,h.only k4 k3⟩
theorem zwA(h:Er w0 w b g L er)(hn:er≠0):Calls prog 44 #[.pointer (some ⟨b,0,none⟩),.int .i64 32] w (ErP w0 b g L (.slice none 0 0)):=by
 refine Calls.mono (zwB (m:=32) h.at_ hn) fun e w2 k=>?_;obtain⟨er,a,k2,k3,k4⟩:=k;exact⟨er,a,k2,h.only k4 k3⟩
theorem zyV(f:Z6 w0)(h:Er w0 w b g L er):Calls prog 22 #[] w fun e w2=>∃a,e = .returned (.pointer (some a))/\Er w0 w2 b g L er:=by
 refine Calls.mono (TC.KM (B:=own w) (fun c hc=>hc) (f.Z4 (qy.qt h.gr))) fun e w2 k=>?_;obtain⟨g1,t,rfl,d⟩:=k;obtain⟨⟨x,hd,r,rfl,_⟩,_⟩:=id d;exact⟨_,rfl,h.grown g1⟩
end
def NoP(w:World)(e:Ending)(w2:World):Prop:=e = .returned (.tuple #[.pointer none,.int .i64 6])/\Grown w w2
theorem zfU{w:World}{p:Option Addr}{c N:Nat}{L:List Nat}(hk:Z6 w)(hi:In w p L)(hN:L.length=N)(hm:N<=100000)(hr:uintR 4000 L=none):Calls prog 15 #[.slice p N c] w (NoP w):=by
 have TK:=hid hk;have HI:=hid hi;have HN:=hid hN;have HM:=hid hm;have HRN:=hid hr;clear hk hi hN hm hr;go_enter func15,ntmps15
 go_wp2_with(first
  | (go_at_call 40;(with_reducible refine(zaS HI.out HN.out HM.out).mono ?_);rintro e w1 ⟨b,g,rfl,kb1,kg,kn,ka,kr,kt⟩;have KA:RowKit.Hid (Er w w1 b g L 0):=hid ⟨ka,kr,kb1⟩;clear kb1 kg kn ka kr kt)
  | (go_at_call 22;(with_reducible refine(zyV TK.out KA.out).mono ?_);rintro e w2 ⟨a,rfl,H2⟩;have HR2:=hid H2;clear H2)
  | (go_at_call 41;(with_reducible refine(zrU HR2.out HRN.out).mono ?_);rintro e w3 ⟨er,k1,rfl,k2⟩;have ER:=hid k1;have HR3:=hid k2;clear k1 k2))
 .go_loopg [5,16] 0 (fun _ t i wr=>wr=w3/\t = .pointer (some a)/\i = .int .i64 0)
  case atStart=>exact⟨rfl,rfl,rfl⟩
  case round=>
   obtain⟨rfl,rfl,rfl⟩:=hrel
   go_wp2_with(first
    | (go_at_call 44;(with_reducible refine(zwA HR3.out ER.out).mono ?_);rintro e w4 ⟨er4,k1,rfl,k2⟩;have ER4:=hid k1;have HR4:=hid k2;clear k1 k2;have NE:(er4 != 0)=true:=by have:=ER4.out;simpa using this)
    | (go_at_call 45;(with_reducible refine(zkW HR4.out.at_ ER4.out).mono ?_);rintro e w5 ⟨rfl,rfl⟩))
   go_ret2
   exact⟨rfl,HR4.out.gr⟩
end RD
end
section
open Go Go.Proofs TR
open Go.AuditPlain (put zt)
open KT (zF)
namespace RD
theorem zwR{R:zy}(h:RH.Acc R):RH.Acc (nr R):=⟨zqt h.ok,⟨zqt h.ok,h.good.ver,by rw[zqv];exact h.good.err⟩,h.day,h.ver⟩
theorem zqr(Rs:List zy):qY (Rs.map nr)=qY Rs:=by
 unfold qY;rw[List.flatMap_map];congr 1
 funext R
 rw[zqs]
theorem ztl(Rs:List zy):kc (Rs.map nr)=kc Rs:=by
 unfold kc jZ;rw[zqr,zkr,length_map]
abbrev ziS(w0 wc:World):Nat->Prop:=fun c=>own w0 c/\c<wc.heap.size
theorem zwg{w0 w:World}{t want:Value}{es fs:List Ent}(H:St (own w0) w0 w t want es fs):St (ziS w0 w) w0 w t want es fs:=by
 refine⟨H.g,fun c hc=>hc.1,Km H.tr,H.rows,fun p n m e=>⟨H.low p n m e,?_⟩,H.lists,H.same,H.acc,H.hist⟩;by_cases b:fs=[]
 .rw[H.rows.1 b]at e;cases e
 .obtain⟨y,f,d⟩:=H.rows.2 b;rw[f]at e;cases e;exact zw.lt d
theorem Vw{B:Nat->Prop}{w w2:World}{v:Value}{es:List Ent}(h:zU B w v es)(old:∀c,B c->c<w.heap.size->w2.heap[c]?=w.heap[c]?)(l:jo w2 es):zU B w2 v es:=by
 obtain⟨⟨x,hd,r,e,f,d,b,m,k,j⟩,_⟩:=h;refine⟨⟨x,hd,r,e,@zw.heap unk0 _ _ _ _ _ _ f (old _ m (zw.lt f)),@zw.heap unk0 _ _ _ _ _ _ d (old _ k (zw.lt d)),⟨b.1,fun hn=>?_⟩,m,k,j⟩,l⟩;obtain⟨y,i,g⟩:=b.2 hn;exact⟨y,i,@zw.heap unk0 _ _ _ _ _ _ g (old _ (j _ _ _ i) (zw.lt g))⟩
theorem zgh{w w2:World}{p:Addr}{N:List Nat}(h:In w (some p) N)(e:w2.heap[p.block]?=w.heap[p.block]?):In w2 (some p) N:=by
 refine⟨h.1,fun hn=>?_⟩;obtain⟨b,o,c,hc⟩:=h.2 hn;cases c;exact⟨b,o,rfl,fun i x hi=>by rw[cell?_of_block (a:=⟨b,o+i,none⟩) e];exact hc i x hi⟩
structure BS(w0 wc w:World)(t want:Value)(es fs:List Ent)(p:Addr)(N:List Nat):Prop where
 st:St (ziS w0 wc) w0 w t want es fs
 inn:In w (some p) N
 lo:wc.heap.size<=p.block
 hi:p.block<w.heap.size
 n0:w0.heap.size<=wc.heap.size
structure LB(w0 wc w3 w:World)(t want back:Value)(es fs bs:List Ent)(p:Addr)(N:List Nat):Prop where
 st:St (ziS w0 wc) w0 w t want es fs
 inn:In w (some p) N
 lo:wc.heap.size<=p.block
 hi:p.block<w3.heap.size
 n0:w0.heap.size<=wc.heap.size
 c3:wc.heap.size<=w3.heap.size
 s3:w3.heap.size<=w.heap.size
 tr:zU (own w3) w back bs
section
variable{w0 wc w3 w w2:World}{t want back:Value}{es fs bs:List Ent}{p:Addr}{N:List Nat}
theorem LB.grown(h:LB w0 wc w3 w t want back es fs bs p N)(g:Grown w w2):LB w0 wc w3 w2 t want back es fs bs p N:=
 ⟨h.st.grown g,Wj h.inn g,h.lo,h.hi,h.n0,h.c3,Nat.le_trans h.s3 g.size,Zw g h.tr⟩
theorem LB.inner(h:LB w0 wc w3 w t want back es fs bs p N)(k:qy w w2)(k3:Zy (own w3) w w2)(d:zU (own w3) w2 back bs):LB w0 wc w3 w2 t want back es fs bs p N:=by
 have old:∀c,c<w3.heap.size->w2.heap[c]?=w.heap[c]?:=fun c hc=>k3.2 c (Nat.lt_of_lt_of_le hc h.s3) fun e=>by have e:w3.heap.size<=c:=e;omega
 have c3:=h.c3;have f:=h.n0;refine⟨⟨⟨fun c hc=>by rw[old c (by omega),h.st.g.old c hc],Nat.le_trans h.st.g.size k.size,k.tape.trans h.st.g.tape,k.os.trans h.st.g.os,k.output.trans h.st.g.output⟩,h.st.old,Vw h.st.tr (fun c hc _=>old c (by have:=hc.2;omega)) (k.lists h.st.tr.lists),⟨h.st.rows.1,fun hn=>?_⟩,h.st.low,k.lists h.st.lists,h.st.same,h.st.acc,h.st.hist⟩,zgh h.inn (old _ h.hi),h.lo,h.hi,h.n0,h.c3,Nat.le_trans h.s3 k.size,d⟩;obtain⟨y,e,b⟩:=h.st.rows.2 hn;exact⟨y,e,@zw.heap unk0 _ _ _ _ _ _ b (old _ (by have:=(h.st.low _ _ _ e).2;have i:y.1<wc.heap.size:=this;omega))⟩
theorem LB.outer(h:LB w0 wc w3 w t want back es fs bs p N)(k:qy w w2)(k3:Zy (ziS w0 wc) w w2)(b:zU (ziS w0 wc) w2 t es):LB w0 wc w3 w2 t want back es fs bs p N:=by
 have c3:=h.c3;have out:∀c,c<w.heap.size->wc.heap.size<=c->w2.heap[c]?=w.heap[c]?:=fun c hc hn=>k3.2 c hc fun e=>by have:=e.2;omega
 exact⟨h.st.qD k k3 b,zgh h.inn (out _ (Nat.lt_of_lt_of_le h.hi h.s3) h.lo),h.lo,h.hi,h.n0,h.c3,Nat.le_trans h.s3 k.size,Vw h.tr (fun c hc hl=>out c hl (by have hc:w3.heap.size<=c:=hc;omega)) (k.lists h.tr.lists)⟩
theorem LB.zwu(h:LB w0 wc w3 w t want back es fs bs p N)(hs:St (ziS w0 wc) w0 w2 t want es fs)(kw:Vu want w w2)(g:w.heap.size<=w2.heap.size):LB w0 wc w3 w2 t want back es fs bs p N:=by
 have c3:=h.c3;have out:∀c,c<w.heap.size->wc.heap.size<=c->w2.heap[c]?=w.heap[c]?:=fun c hc hn=>kw c hc fun q n m e hq=>by have:=(h.st.low _ _ _ e).2;omega
 have lists:jo w2 bs:=by
  have one:∀ {v:Value}{o:Option ByteArray},AtS w v o->AtS w2 v o:=fun h1=>WU h1 fun d arr fz hd=>by
   refine kw d (Array.getElem?_eq_some_iff.1 hd).1 fun q n m e he=>?_;by_cases b:fs=[]
   .rw[h.st.rows.1 b]at e;cases e
   .obtain⟨y,k,i⟩:=h.st.rows.2 b;rw[k]at e;cases e;obtain⟨f,j,h',_⟩:=i;have he:y.1=d:=he;rw[he,hd]at h';simp only[Option.some.injEq,Obj.cells.injEq]at h';exact absurd h'.2.1 (by decide)
  exact fun e he=>⟨one (h.tr.lists e he).1,one (h.tr.lists e he).2⟩
 exact⟨hs,zgh h.inn (out _ (Nat.lt_of_lt_of_le h.hi h.s3) h.lo),h.lo,h.hi,h.n0,h.c3,Nat.le_trans h.s3 g,Vw h.tr (fun c hc hl=>out c hl (by have hc:w3.heap.size<=c:=hc;omega)) lists⟩
end
section
variable{w0 wc w3 w:World}{want:Value}{a a2:Addr}{es fs bs:List Ent}{p:Addr}{N:List Nat}{cs:List Value}
theorem zgI(Rs:List zy):kc Rs≠[]:=by
 unfold kc;intro h;exact zcp _ (List.append_eq_nil_iff.1 h).1
theorem Kf{B:Nat->Prop}{t:Value}(H:St B w0 w t want es fs):∀R∈es.map (·.1),RH.Acc R:=by
 intro R hR;rw[<- H.same]at hR;obtain⟨e,he,rfl⟩:=List.mem_map.1 hR;exact H.acc e he
theorem zu9(H:St (own w0) w0 wc (.pointer (some a)) want es fs)(few:es.length<=8)(hN:N=kc (es.map (·.1))):Calls prog 14 #[.pointer (some a)] wc fun e w2=>∃b o c,e = .returned (.slice (some ⟨b,o,none⟩) N.length c)/\N.length<=c/\BS w0 wc w2 (.pointer (some a)) want es fs ⟨b,o,none⟩ N:=by
 subst hN;have d:=zwg H;refine(zi2 d.tr few (Kf d)).mono fun e w2 k=>?_;obtain⟨q,c,rfl,h1,h2,h3,f⟩:=k;obtain⟨b,o,rfl,_⟩:=h3.2 (zgI _);exact⟨b,o,c,rfl,h2,d.qD h1.k h1.k3 h1.tr,h3,f _ rfl,zrm h3 (zgI _),H.g.size⟩
theorem zgk{B:Nat->Prop}{t:Value}(H:St B w0 w t want es fs):zjt (es.map (·.1)):=by rw[<- H.same];exact H.hist
theorem zwz{t:Value}{c:Nat}(i:Z6 w0)(H:BS w0 wc w t want es fs p N)(few:es.length<=8)(hN:N=kc (es.map (·.1))):Calls prog 15 #[.slice (some p) N.length c] w fun e w2=>∃a2 bs,e = .returned (.tuple #[.pointer (some a2),.int .i64 0])/\LB w0 wc w w2 t want (.pointer (some a2)) es fs bs p N/\bs.map (·.1)=(es.map (·.1)).map nr:=by
 subst hN;obtain⟨h,b⟩:=zri (zgk H.st) (Kf H.st) (by rw[length_map];exact few);have d:=H.inn;rw[h]at d;refine(UU (i.Z4 (qy.qt H.st.g)) d b).mono fun e w2 k=>?_;obtain⟨a2,bs,rfl,g,f,hs⟩:=k;exact⟨a2,bs,rfl,⟨H.st.grown g,Wj H.inn g,H.lo,H.hi,H.n0,Nat.le_of_lt (Nat.lt_of_le_of_lt H.lo H.hi),g.size,f⟩,hs⟩
theorem zA5{t back:Value}{q:Option Addr}{d:Nat}(g:Z6 w0)(H:LB w0 wc w3 w t (.slice q fs.length d) back es fs bs p N)(few:es.length<=8)(hN:N=kc (es.map (·.1))):Calls prog 17 #[.slice q fs.length d] w fun e w2=>∃b o c,e = .returned (.slice (some ⟨b,o,none⟩) N.length c)/\LB w0 wc w3 w2 t (.slice q fs.length d) back es fs bs p N/\In w2 (some ⟨b,o,none⟩) N:=by
 subst hN;refine(zvo g H.st few).mono fun e w2 k=>?_;obtain⟨b,o,n,c,rfl,rfl,h1,h2,h3,f,_⟩:=k;exact⟨b,o,c,rfl,H.zwu h2 h3 f,h1⟩
theorem ziG(w:World)(q:Nat):Grown w (w.drewN q):=⟨fun _ _=>rfl,Nat.le_refl _,rfl,rfl,rfl⟩
theorem zdf{b o:Nat}(h:In w (some ⟨b,o,none⟩) N):∀j,j<N.length->w.cell? ⟨b,o+j,none⟩=some (.int .u8 (N.getD j 0:Nat)):=by
 intro j c;refine Ug h j _ ?_;rw[getD_eq_getElem?_getD,List.getElem?_eq_getElem c];rfl
theorem zmL{b o c b' d f:Nat}(h1:In w (some ⟨b,o,none⟩) N)(h2:In w (some ⟨b',d,none⟩) N)(hl:N.length<=100000):Calls prog 16 #[.slice (some ⟨b,o,none⟩) N.length c,.slice (some ⟨b',d,none⟩) N.length f] w fun e w2=>e = .returned (.bool true)/\Grown w w2:=by
 refine(Go.Proofs.YtaffhpgaagnjfaaGreatDoor.eq6 N N b o c b' d f w (by omega) (by omega) (zdf h1) (zdf h2)).mono fun e w2 k=>?_;obtain⟨rfl,q,rfl⟩:=k;exact⟨by rw[decide_eq_true rfl],ziG w q⟩
theorem zyZ(H:LB w0 wc w3 w (.pointer (some a)) want (.pointer (some a2)) es fs bs p N)(hs:bs.map (·.1)=(es.map (·.1)).map nr):Calls prog 13 #[.pointer (some a2)] w fun e w2=>e = .returned (.int .i64 (es.length:Nat))/\w=w2:=by
 refine(zy2 H.tr).mono fun e w2 hp=>?_;obtain⟨rfl,rfl⟩:=hp;have:=congrArg List.length hs;rw[length_map,length_map,length_map]at this;rw[this];exact⟨rfl,rfl⟩
theorem zy0{back:Value}(H:LB w0 wc w3 w (.pointer (some a)) want back es fs bs p N):Calls prog 13 #[.pointer (some a)] w fun e w2=>e = .returned (.int .i64 (es.length:Nat))/\w=w2:=by
 refine(zy2 H.st.tr).mono fun e w2 hp=>?_;obtain⟨rfl,rfl⟩:=hp;exact⟨rfl,rfl⟩
theorem ztM{t:Value}(H:LB w0 wc w3 w t want (.pointer (some a2)) es fs bs p N)(few:es.length<=8)(hs:bs.map (·.1)=(es.map (·.1)).map nr)(c:cs=zF 32 (qN (es.map (·.1)))):Calls prog 8 #[.pointer (some a2)] w fun e w2=>e = .returned (.agg cs.toArray)/\LB w0 wc w3 w2 t want (.pointer (some a2)) es fs bs p N:=by
 have hl:bs.length=es.length:=by have:=congrArg List.length hs;rwa[length_map,length_map,length_map]at this
 refine Calls.mono (TC.Jl (by rw[hl];exact few) H.tr) fun e w2 hp=>?_;obtain⟨k,k3,b,rfl⟩:=hp;refine⟨by rw[c,hs,zkr],H.inner k k3 b⟩
theorem ztN{back:Value}(H:LB w0 wc w3 w (.pointer (some a)) want back es fs bs p N)(few:es.length<=8)(c:cs=zF 32 (qN (es.map (·.1)))):Calls prog 8 #[.pointer (some a)] w fun e w2=>e = .returned (.agg cs.toArray)/\LB w0 wc w3 w2 (.pointer (some a)) want back es fs bs p N:=by
 refine Calls.mono (TC.Jl few H.st.tr) fun e w2 hp=>?_;obtain⟨k,k3,b,rfl⟩:=hp;exact⟨by rw[c],H.outer k k3 b⟩
theorem zr9{t:Value}(H:LB w0 wc w3 w t want (.pointer (some a2)) es fs bs p N)(few:es.length<=8)(hs:bs.map (·.1)=(es.map (·.1)).map nr)(hN:N=kc (es.map (·.1))):Calls prog 14 #[.pointer (some a2)] w fun e w2=>∃b o c,e = .returned (.slice (some ⟨b,o,none⟩) N.length c)/\LB w0 wc w3 w2 t want (.pointer (some a2)) es fs bs p N/\In w2 (some ⟨b,o,none⟩) N:=by
 have hl:bs.length=es.length:=by have:=congrArg List.length hs;rwa[length_map,length_map,length_map]at this
 refine(zi2 H.tr (by rw[hl];exact few) fun R hR=>?_).mono fun e w2 k=>?_
 .rw[hs]at hR;obtain⟨f,d,rfl⟩:=List.mem_map.1 hR;exact zwR (Kf H.st f d)
 .rw[hs,ztl,<- hN]at k;obtain⟨q,c,rfl,h1,h2,h3,g⟩:=k;obtain⟨b,o,rfl,_⟩:=h3.2 (by rw[hN];exact zgI _);exact⟨b,o,c,rfl,H.inner h1.k h1.k3 h1.tr,h3⟩
theorem zpP{t:Value}{c k:Nat}(j:Z6 w0)(H:St (ziS w0 wc) w0 w t want es fs)(hi:In w (some p) N)(few:es.length<=8)(hN:N=kc (es.map (·.1)))(i:k<N.length):Calls prog 15 #[.slice (some p) k c] w (NoP w):=by
 subst hN;have d:Z6 w:=j.Z4 (qy.qt H.g);have hlen:((kc (es.map (·.1))).take k).length=k:=by rw[length_take];omega
 have f:=UA (Kf H) (by rw[length_map];exact few);by_cases h:k=0
 .subst h;exact zfU (L:=[]) d (zag _ _) rfl (by omega) rfl
 .obtain⟨l,rest,e,b⟩:=ztI (zgk H) (Kf H) (by rw[length_map];exact few) (Nat.pos_of_ne_zero h) i;have h2:=zmE hi k;rw[e]at h2;exact(UU d h2 b).mono fun e w2 k=>k
theorem znC{t:Value}{q:Addr}{c:Nat}(d:Z6 w0)(H:St (ziS w0 wc) w0 w t want es fs)(few:es.length<=8)(hN:N=kc (es.map (·.1)))(hi:In w (some q) (N++[0])):Calls prog 15 #[.slice (some q) (N.length+1) c] w (NoP w):=by
 subst hN;obtain⟨e,b⟩:=zrh (zgk H) (Kf H) (by rw[length_map];exact few);rw[e]at hi;exact(UU (d.Z4 (qy.qt H.g)) hi b).mono fun e w2 k=>k
end
end RD
end
section
open Go Go.Proofs TR
open Go.AuditPlain (put zt)
open KT (zF)
namespace RD
theorem u16_nat{n:Int}(w:(Lit.int .u16 n).wf=true):∃m:Nat,n=(m:Nat)/\m<65536:=by
 have h1:IntKind.u16.min=0:=rfl;have h2:IntKind.u16.max=65535:=rfl;simp only[Lit.wf,Bool.and_eq_true,decide_eq_true_eq,h1,h2]at w;exact⟨n.toNat,by omega,by omega⟩
theorem ztt{N:List Nat}(h:∀y∈N,y<256):∀y∈N++[0],y<256:=kq h fun y a=>by rw[List.mem_singleton]at a;omega
theorem zon{k n c:Nat}(hn:0<n)(hc:n<=c):¬((n:Int)=0)/\n≠0/\(k:Int) % (n:Int)<=(c:Int)/\0<=(k:Int) % (n:Int):=by
 have h:k % n<n:=mod_lt _ hn;have e:(k:Int) % (n:Int)=((k % n:Nat):Int):=by simp
 rw[e];exact⟨by omega,by omega,by omega,by omega⟩
theorem zoz(v:Value)(cut:Int)(hcut:(Lit.int .u16 cut).wf=true)(w:World)(hk:Z6 w)(h0:Wx w)(hv:zgW w v):Calls prog 4 #[v,.int .u16 cut] w fun e w2=>e = .returned (.bool true)/\Grown w w2:=by
 obtain⟨k,rfl,hk16⟩:=u16_nat hcut;have TK:=hid hk;have T0:=hid h0;have HV:=hid hv;clear hk h0 hv hcut;go_enter func4,ntmps4
 go_wp2_with(first
  | (go_at_call 6;(with_reducible refine(zln T0.out).mono ?_);rintro e w1 ⟨rfl,hg⟩;have G1:=hid hg;clear hg)
  | (go_at_call 7;(with_reducible refine(zsG G1.out TK.out T0.out HV.out).mono ?_);rintro e w2 ⟨a,q,c,es,fs,few,hc,rfl,H⟩;have H2:=hid H;have few8:RowKit.Hid (es.length<=8):=hid (by have:=zcg H;omega);obtain⟨N,hN⟩:∃N,N=kc (es.map (·.1)):=⟨_,rfl⟩;have HN:=hid hN;have HL:RowKit.Hid (N.length<=800/\33<=N.length):=hid (by rw[hN];exact UA (Kf H) (by rw[length_map];exact few8.out));clear H hN;obtain⟨cs,hcs⟩:∃cs,cs=zF 32 (qN (es.map (·.1))):=⟨_,rfl⟩;have HD:=hid hcs;have EQ:=zrQ hcs;clear hcs)
  | (go_at_call 14;(with_reducible refine(zu9 H2.out few8.out HN.out).mono ?_);rintro e w3 ⟨b3,o3,c3,rfl,hc3,k1⟩;have B3:=hid k1;clear k1;obtain⟨hz,hz2,hkc,hk0⟩:=zon (k:=k) (c:=c3) (show 0<N.length by have:=HL.out;omega) hc3)
  | (go_at_call 15;(with_reducible refine(zwz TK.out B3.out few8.out HN.out).mono ?_);rintro e w4 ⟨a4,bs,rfl,k1,k2⟩;have L4:=hid k1;have HS:=hid k2;clear k1 k2)
  | (go_at_call 17;(with_reducible refine(zA5 TK.out L4.out few8.out HN.out).mono ?_);rintro e w5 ⟨b5,o5,c5,rfl,k1,k2⟩;have L5:=hid k1;have I5:=hid k2;clear k1 k2)
  | (go_at_call 16;(with_reducible refine(zmL L5.out.inn I5.out (by have:=HL.out;omega)).mono ?_);rintro e w6 ⟨rfl,k1⟩;have L6:=hid (L5.out.grown k1);clear k1 I5)
  | (go_at_call 13;(with_reducible refine(zyZ L6.out HS.out).mono ?_);rintro e w7 ⟨rfl,rfl⟩)
  | (go_at_call 13;(with_reducible refine(zy0 L6.out).mono ?_);rintro e w7 ⟨rfl,rfl⟩)
  | (go_at_call 8;(with_reducible refine(ztM L6.out few8.out HS.out HD.out).mono ?_);rintro e w8 ⟨rfl,k1⟩;have L8:=hid k1;clear k1)
  | (go_at_call 8;(with_reducible refine(ztN L8.out few8.out HD.out).mono ?_);rintro e w9 ⟨rfl,k1⟩;have L9:=hid k1;clear k1)
  | (go_at_call 14;(with_reducible refine(zr9 L9.out few8.out HS.out HN.out).mono ?_);rintro e w10 ⟨b10,o10,c10,rfl,k1,k2⟩;have L10:=hid k1;have I10:=hid k2;clear k1 k2)
  | (go_at_call 16;(with_reducible refine(zmL I10.out L10.out.inn (by have:=HL.out;omega)).mono ?_);rintro e w11 ⟨rfl,k1⟩;have L11:=hid (L10.out.grown k1);clear k1 I10)
  | (go_at_call 15;(with_reducible refine(zpP TK.out L11.out.st L11.out.inn few8.out HN.out (mod_lt _ (by have:=HL.out;omega))).mono ?_);rintro e w12 ⟨rfl,k1⟩;have L12:=hid (L11.out.grown k1);clear k1)
  | (go_at_call 18;(with_reducible refine(zr0 L12.out.inn (by rw[HN.out];exact zgI _) (by have:=HL.out;omega)).mono ?_);rintro e w13 ⟨b13,c13,rfl,k1,k2⟩;have L13:=hid (L12.out.grown k1);have C13:=hid k2;have G13:=hid k1;clear k1 k2)
  | (at_builtin;refine zb1 _ _ _ (M:=[0]) (n:=1) rfl rfl rfl (Yt C13.out (zE _ _)) (by have:=HL.out;omega) (by decide) (Nat.le_trans G13.out.size (zE _ _).size) rfl (zCR _) ?_;intro b14 o14 c14 w14 k1 k2;have L14:=hid (L12.out.grown (zaD (G13.out.trans' (zE _ _)) k2 (Yt C13.out (zE _ _))));have I14:=hid (XD k1 (ztt L12.out.inn.1));clear k1 k2)
  | (go_at_call 15;(with_reducible refine(znC TK.out L14.out.st few8.out HN.out I14.out).mono ?_);rintro e w15 ⟨rfl,k1⟩;have L15:=hid (L14.out.grown k1);clear k1))
 go_ret
 exact⟨rfl,L15.out.st.g⟩
end RD
end
end Go.AEv
namespace Go.Proofs.YtaffhpgaagnjfaaGreatDoor
open Go.ChangeShapes Go.WideShapes Go.ChangeAt Go.RowKit
open Go.AEv (tabs Wx Sl4 JT)
theorem own:ownKnob Tryz.prog.godebug=none:=by kernel_rfl
theorem zmF:Tryz.prog.globals.size=8:=by kernel_rfl
theorem Kp{W:World}(h:laidMetH prog Rows.auditBytesRow.laid W)(a:W.ShapedOpen prog):Wx W:=by
 rw[MakeChecks.laidMetH_plain _ _ _ wn]at h;obtain⟨X,⟨g0,t0,O,f0,p0,U,H,D,B,z,⟨g1,t1,N,f1,p1,q1,e,r,k,y,⟨g2,t2,M,f2,p2,q2,d,o,j,x,⟨g3,t3,L,f3,p3,T,G,C,A,w,⟨g4,t4,K,f4,Z,Q,c,m,i,v,⟨g5,t5,J,f5,Y,P,b,l,f,u,_⟩,_⟩,_⟩,_⟩,_⟩,_⟩,_⟩:=h;clear z w;obtain rfl:=Option.some.inj ((show Tryz.prog.globalNamed "math/bits.deBruijn64tab" = some 3 by kernel_rfl).symm.trans e);obtain rfl:=Option.some.inj ((show(Tryz.prog.globals[3]?).map (·.type)=some 451 by kernel_rfl).symm.trans r);obtain rfl:=Option.some.inj ((show Tryz.prog.globalNamed "internal/strconv.uint64pow10" = some 6 by kernel_rfl).symm.trans d);obtain rfl:=Option.some.inj ((show(Tryz.prog.globals[6]?).map (·.type)=some 638 by kernel_rfl).symm.trans o);obtain rfl:=Option.some.inj ((show Tryz.prog.globalNamed "arbac/keccak.rounds" = some 1 by kernel_rfl).symm.trans c);obtain rfl:=Option.some.inj ((show(Tryz.prog.globals[1]?).map (·.type)=some 401 by kernel_rfl).symm.trans m);obtain rfl:=Option.some.inj ((show Tryz.prog.globalNamed "arbac/keccak.turns" = some 2 by kernel_rfl).symm.trans b);obtain rfl:=Option.some.inj ((show(Tryz.prog.globals[2]?).map (·.type)=some 403 by kernel_rfl).symm.trans l);letI:=AEv.unk0;let β:AEv.Inj:=fun g=>if g<100 then some (g,0,0) else none
 refine⟨β,fun _ I=>if_pos I,fun p hp=>?_⟩;simp only[tabs,mem_cons,mem_nil_iff,or_false]at hp;rcases hp with rfl|rfl|rfl|rfl
 .have h1:=AEv.QE (zs:=AEv.rounds.map Int.ofNat) underlying401 underlying106 zAX v (by kernel_rfl);have:=AEv.zfC (β:=β) (t:=401) (n:=24) a (by rw[zmF];decide) (by kernel_rfl) c i h1 (by kernel_rfl);rwa[List.map_map]at this
 .have h1:=AEv.QE (zs:=AEv.turns.map Int.ofNat) underlying403 underlying3 c3 u (by kernel_rfl);have:=AEv.zfC (β:=β) (t:=403) (n:=25) a (by rw[zmF];decide) (by kernel_rfl) b f h1 (by kernel_rfl);rwa[List.map_map]at this
 .have h1:=AEv.QE (zs:=AEv.zvD.map Int.ofNat) underlying451 underlying5 c5 y (by kernel_rfl);have:=AEv.zfC (β:=β) (t:=451) (n:=64) a (by rw[zmF];decide) (by kernel_rfl) e k h1 (by kernel_rfl);rwa[List.map_map]at this
 .have h1:=AEv.QE (zs:=AEv.zvJ.map Int.ofNat) underlying638 underlying106 zAX x (by kernel_rfl);have:=AEv.zfC (β:=β) (t:=638) (n:=20) a (by rw[zmF];decide) (by kernel_rfl) d j h1 (by kernel_rfl);rwa[List.map_map]at this
theorem lifted(os:Os)(started:os.Started)(H:Type)(enc:TypeId×Value->H) :
  ReturnsInHanded {} checked os 4 .any (fun w args=>(Rows.auditBytesSpec.pre enc prog Tryz.f4 [] false w args/\laidMetH prog Rows.auditBytesRow.laid w)/\sizedMet enc prog Tryz.f4 (OpenSpec.ofChange Rows.auditBytesSpec) false w args)
   (Rows.auditBytesSpec.post enc prog Tryz.f4 false true false false):=by
 refine AEv.zbo (C:=checked) (tb:=4) own started (by kernel_rfl) func4 cf2 (by kernel_rfl) rfl (by kernel_rfl) underlying4 ?_
  (ChangeSpec.witness_shaped (enc:=enc) (C:=checked) (os:=os) (X:=fun w _=>laidMetH prog Rows.auditBytesRow.laid w) false (laidAll prog os Rows.auditBytesRow.laid)
   #[.slice none 0 0,.int .u16 0] 8 (laidAll_os _ _ _)
   (shaped_of_ZipB (wz os) (wh os)) (wo os) (wp os H enc) (ws os H enc)
   (by rw[MakeChecks.laidMetH_plain _ _ _ wn];exact laidMet_laidAll _ (wf os) (wi os))) ?_
 .intro e c;have c:e.length=2:=by rw[c,params4];rfl
  match e,c with
  | [_,_],_=>rfl
 .intro W base args e z b l n d;have a:∀(j:Nat) t v,Tryz.f4.params[j]?=some t->args[j]?=some v->Value.okWide prog W .any base t v:=b;have o:DataW.TrodAll enc prog W 0 (fun _=>true) true Tryz.f4.params.toList args.toList e z:=l;rw[params4]at o a;obtain⟨g,u,L,G,K,I,k,rfl,rfl,A,y⟩:=trodAll_cons o;obtain⟨v1,r,d1,D,J,q1,rfl,rfl,rfl,h1,x⟩:=trodAll_cons y;obtain⟨rfl,rfl,rfl⟩:=trodAll_nil x;obtain rfl:args = #[g,v1]:=by cases args;simp_all
  have i:=zkk (a 0 22 g rfl rfl) A;obtain⟨m,rfl⟩:=okWide_int underlying50 (a 1 50 v1 rfl rfl);obtain⟨p,B,_,f⟩:=DataW.trod_int underlying50 (h1.choose_spec:DataW.trod _ _ _ _ _ _ _ _ [_]=_);obtain rfl:m=p:=by cases B;rfl
  exact(AEv.RD.zoz g m f W (zfD (Kp n d)) (Kp n d) i).mono fun _ _ h=>⟨h.2,h.1⟩
end Go.Proofs.YtaffhpgaagnjfaaGreatDoor
namespace Go.Proofs.YtaffhpgaagnjfaaGreatDoor
open Go.ChangeShapes Go.WideShapes Go.ChangeAt Go.RowKit
theorem ziV:joinedFacts prog 4 Tryz.f4 Rows.auditBytesSpec Rows.auditBytesRow=true:=by
 unfold joinedFacts;exact AEv.Zq (AEv.Zq (AEv.Zq (AEv.Zq (AEv.Zq (AEv.Zq (AEv.Zq (AEv.Zq (AEv.Zq (AEv.Zq (AEv.Zq (AEv.Zq (AEv.Zq (AEv.Zq (AEv.Zq (AEv.Zq (AEv.Zq (AEv.Zq (AEv.Zq (AEv.Zq (AEv.Zq (AEv.Zq (AEv.Zq (AEv.Zq (AEv.Zq (AEv.Zq (AEv.Zq (AEv.Zq (AEv.Zq (AEv.Zq (AEv.Zq (cf1) cf2) cf3) cf4) cf5) cf6) cf7) cf8) cf9) zCO) zCN) zCM) zCL) zCK) zCJ) zCI) zCH) zCG) zCF) zCE) zCD) zCC) zCB) zCA) zCz) zCy) zCx) zCw) zCv) zCu) zCt) zCs
theorem zny:Rows.AuditBytesSaid:=
 OpenClaim.holds_of_wide 4 Tryz.f4 rfl rfl rfl rfl rfl rfl rfl ⟨rfl,rfl,rfl,rfl,rfl⟩ rfl rfl rfl rfl rfl (by kernel_rfl) func4 ziV
  (of_decide_eq_true (by kernel_rfl)) (by unfold Func.isWrapper;first|(rw[if_pos (by decide +kernel)];kernel_rfl)|(rw[if_neg (by decide +kernel)];exact⟨rfl,rfl⟩))
  (fun os started H enc _=>lifted os started H enc)
theorem auditBytes_holds:Rows.AuditBytesCardSaid:=
 Claim7.holds_tied_plain_at .later [] [.data,.data,.data,.data,.data,.data,.pinned] true (true, "0c87422db3d29feb9bc90f90323f6172cda45bea840dfa60a054d18854ce3ea6") true
  zny (fun _ h=>by cases h) zv8 (fun _ h=>by cases h) auditBytes_row_tie rfl ⟨rfl,rfl⟩ zqK rfl
  (fun f fn d b=>by
   obtain rfl:f=4:=Option.some.inj ((show Tryz.prog.funcNamed "arbac/arbaclaw54.AuditBytes" = some 4 by kernel_rfl).symm.trans d) |>.symm;obtain rfl:fn=Tryz.f4:=(Option.some.inj (Tryz.func4.symm.trans b)).symm
   exact⟨znW,fun j t c=>by
    rw[params4]at c;have hm:t∈[22,50]:=by simpa using Array.mem_of_getElem? c
    have a:([22,50].all fun u=>!Tryz.prog.wantsStandIn u)=true:=by kernel_rfl
    exact(show Tryz.prog.wantsStandIn t=false by simpa using List.all_eq_true.1 a t hm)⟩)
  zru
#print axioms auditBytes_holds
end Go.Proofs.YtaffhpgaagnjfaaGreatDoor
