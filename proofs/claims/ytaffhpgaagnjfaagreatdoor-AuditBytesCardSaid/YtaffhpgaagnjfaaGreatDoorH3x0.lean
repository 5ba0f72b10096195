/- Trails of an audit: calls and runs (H3x0). Conditions: those of each theorem. -/
import Derived.Test.YtaffhpgaagnjfaaGreatDoorL3a
open List Array Go.World Go.Lib Go.Proofs.Tryz
set_option maxHeartbeats 40000000
set_option maxRecDepth 100000
namespace Go.AEv
section
open Go Go.Proofs TR
open Go.AuditPlain (hi put qA zt qk numbers zig)
open KT (zF)
namespace RD
theorem zaW{B:Nat->Prop}{x y z:World}(hs:x.heap.size<=y.heap.size)(h:Zy B x y)(k:Zy B y z):Zy B x z:=
 ⟨fun c arr t fz h1 h2 h3 a=>by have e:=h.1 c arr t fz h1 h2 h3 a;rw[k.1 c arr t fz (e ▸ h1) h2 h3 a,e],fun c hc hn=>by rw[k.2 c (Nat.lt_of_lt_of_le hc hs) hn,h.2 c hc hn]⟩
theorem zaX{B:Nat->Prop}{x y:World}(g:Grown x y):Zy B x y:=
 ⟨fun c _ _ _ h1 _ _ _=>g.old c (Array.getElem?_eq_some_iff.1 h1).1,fun c hc _=>g.old c hc⟩
theorem zdc(w:World):Grown w w:=⟨fun _ _=>rfl,Nat.le_refl _,rfl,rfl,rfl⟩
structure Tq(B:Nat->Prop)(w0 w:World)(t:Value)(es:List Ent):Prop where
 tr:zU B w t es
 k:qy w0 w
 k3:Zy B w0 w
theorem Tq.grown{B:Nat->Prop}{a w w2:World}{t:Value}{es:List Ent}(h:Tq B a w t es)(g:Grown w w2):Tq B a w2 t es:=
 ⟨Zw g h.tr,h.k.trans (qy.qt g),zaW h.k.size h.k3 (zaX g)⟩
theorem zw7{B:Nat->Prop}{a w:World}{t:Value}{es:List Ent}{cs:List Value}(h:Tq B a w t es)(few:es.length<=8)(c:cs=zF 32 (qN (es.map (·.1)))) :
  Calls prog 8 #[t] w fun e w2=>e = .returned (.agg cs.toArray)/\Tq B a w2 t es/\qy w w2:=by
 refine Calls.mono (TC.Jl few h.tr) fun e w2 hp=>?_;obtain⟨k,k3,b,rfl⟩:=hp;rw[c];exact⟨rfl,⟨b,h.k.trans k,zaW h.k.size h.k3 k3⟩,k⟩
theorem zg7{w:World}{cs:List Value}{ops:Array Oper}{rest:List Oper}{o:Oper}{a:Act}{Q:Exit->Act->World->Prop}(x y:Operand)(z:Array Value){f:Nat->Nat}(m:o.guard=none)(l:o.op = .store 29 x y)(d:cs=zF 32 f)
  (hx:a.eval x = .pointer (some ⟨w.heap.size,0,none⟩)) (hy:a.eval y = .agg cs.toArray) (hz:z.size=32)
  (hK:∀w',w'.rangeAt w.heap.size 0 cs->Grown w w'->wpList prog ops Q rest (a.put o.dst undef) w'):wpList prog ops Q (o::rest) a (w.alloc (.cells z 29)):=by
 have hl:cs.length=32:=by rw[d,KT.kH]
 have e:w.heap.size<(w.alloc (.cells z 29)).heap.size:=by unfold World.alloc;simp
 have b:(w.alloc (.cells z 29)).heap[w.heap.size]?=some (.cells z 29 (0,0)):=heap_alloc_new w _;refine wpList_store_mid m 29 x y l w.heap.size 0 cs.toArray hx hy (fun j g=>⟨?_,?_⟩) (by rw[List.size_toArray];exact zrj d) (all_oneCell_toArray fun v hv=>?_) (hK _ ?_ ?_)
 .unfold World.cell?;rw[b];rw[List.size_toArray,hl]at g;show(z[0+j]?).isSome=true;rw[Array.getElem?_eq_getElem (by omega)];rfl
 .unfold World.frozen?;rw[b];show(decide (0<=0+j)&&decide (0+j<0))=false;simp
 .rw[d]at hv;unfold zF at hv;obtain⟨i,_,rfl⟩:=List.mem_map.1 hv;rfl
 .obtain⟨k,g1,p,n,_⟩:=ky w.heap.size cs.toArray.toList 0 (w.alloc (.cells z 29)) z 29 (0,0) b (by rw[List.toList_toArray,hl];omega);intro j v g;have e:=(List.getElem?_eq_some_iff.1 g).1;unfold World.cell?;rw[show((w.alloc (.cells z 29)).setCells w.heap.size 0 cs.toArray.toList).heap[w.heap.size]?=_ from g1];exact(n j (by rw[List.toList_toArray];exact e)).trans g
 .have h:=zE w (.cells z 29);exact⟨fun c hc=>by rw[heap_setCells_other _ _ _ _ (by omega) (by omega)];exact h.old c hc,by rw[kR];exact h.size,by rw[kQ];rfl,by rw[os_setCells];rfl,by rw[output_setCells];rfl⟩
theorem ziD{w:World}{b:Nat}{cs:List Value}{Rs:List zy}(h:w.rangeAt b 0 cs)(a:cs=zF 32 (qN Rs)):In w (some ⟨b,0,none⟩) (jZ Rs):=by
 refine⟨fun y c=>?_,fun _=>⟨b,0,rfl,fun i x hi=>h i _ ?_⟩⟩
 .unfold jZ at c;obtain⟨i,_,rfl⟩:=List.mem_map.1 c;exact AP.QX Rs i
 .rw[a];unfold jZ at hi;unfold zF;rw[List.getElem?_map]at hi ⊢;obtain⟨k,d,rfl⟩:=Option.map_eq_some_iff.1 hi;rw[d];rfl
theorem zwc{I:Nat->Prop}{f w w2:World}{t:Value}{es:List Ent}{b:Nat}{L:List Nat}(H:Tq I f w t es)(hw:Wr f.heap.size w b L)(k:Fr b w w2)(l:Low f.heap.size w w2):Tq I f w2 t es:=by
 obtain⟨p,n,c,B,hb,_⟩:=hw.ex;have h1:=(YA B).1
 have key:∀ {x:Nat×Nat×Nat}{u:TypeId}{vs:List Value},u≠174->u≠5->zw prog w x u vs->zw prog w2 x u vs:=by
  intro x u vs A z h;refine @zw.heap unk0 _ _ _ _ _ _ h (k _ (zw.lt h) (zw.ne h B A) fun a m M e he=>?_);rw[h1]at e;cases e;by_cases i:L=[]
  .have:=hb.1 i;cases this
  .obtain⟨y,e,g,_⟩:=hb.2 i;cases e;exact zw.ne h g z he.symm
 have lists:∀ {es:List Ent},jo w es->jo w2 es:=by
  intro es hl e he
  have one:∀ {v:Value}{o:Option ByteArray},AtS w v o->AtS w2 v o:=fun h=>WU h fun d arr fz hd=>by
   refine k d (Array.getElem?_eq_some_iff.1 hd).1 (fun e=>?_) fun a m M e he=>?_
   .obtain⟨j,D,h',_⟩:=B;have h':w.heap[b]?=_:=h';rw[<- e,hd]at h';simp only[Option.some.injEq,Obj.cells.injEq]at h';exact absurd h'.2.1 (by decide)
   .rw[h1]at e;cases e;by_cases i:L=[]
    .have:=hb.1 i;cases this
    .obtain⟨y,e,g,_⟩:=hb.2 i;cases e;obtain⟨j,D,h',_⟩:=g;have he:y.1=d:=he;rw[he,hd]at h';simp only[Option.some.injEq,Obj.cells.injEq]at h';exact absurd h'.2.1 (by decide)
  exact⟨one (hl e he).1,one (hl e he).2⟩
 obtain⟨⟨x,hd,r,e,K,J,G,O⟩,ls⟩:=H.tr;have old:∀c,c<f.heap.size->w2.heap[c]?=w.heap[c]?:=fun c hc=>l.old c hc;refine⟨⟨⟨x,hd,r,e,key (by decide) (by decide) K,key (by decide) (by decide) J,⟨G.1,fun hn=>?_⟩,O⟩,lists ls⟩,⟨fun c arr t fz h1 h2 h3 C N=>?_,Nat.le_trans H.k.size l.size,l.tape.trans H.k.tape,l.os.trans H.k.os,l.output.trans H.k.output⟩,⟨fun c arr t fz h1 h2 h3 C=>?_,fun c hc hn=>?_⟩⟩
 .obtain⟨y,e,g⟩:=G.2 hn;exact⟨y,e,key (by decide) (by decide) g⟩
 .rw[old c (Array.getElem?_eq_some_iff.1 h1).1];exact H.k.old c arr t fz h1 h2 h3 C N
 .rw[old c (Array.getElem?_eq_some_iff.1 h1).1];exact H.k3.1 c arr t fz h1 h2 h3 C
 .rw[old c hc];exact H.k3.2 c hc hn
def zsC(B:Nat->Prop)(w:World)(t:Value)(es:List Ent)(N:List Nat)(e:Ending)(w2:World):Prop:=∃p c,e = .returned (.slice p N.length c)/\Tq B w w2 t es/\N.length<=c/\In w2 p N/\∀a,p=some a->w.heap.size<=a.block
theorem zoM{f:Nat->Prop}{w d b:World}{t:Value}{es:List Ent}{j N:Nat}{p:Option Addr}{c:Nat}(g:j=es.length)(hN:((put es.length++qY ((es.map (·.1)).take j))++jZ (es.map (·.1))).length=N)
  (K:Grown d b/\((put es.length++qY ((es.map (·.1)).take j))++jZ (es.map (·.1))).length<=c/\In b p ((put es.length++qY ((es.map (·.1)).take j))++jZ (es.map (·.1)))/\∀a,p=some a->d.heap.size<=a.block)
  (S:Tq f w d t es):zsC f w t es (kc (es.map (·.1))) (.returned (.slice p N c)) b:=by
 have e:(put es.length++qY ((es.map (·.1)).take j))++jZ (es.map (·.1))=kc (es.map (·.1)):=by
  unfold kc;rw[g,length_map,take_of_length_le (by rw[length_map];exact Nat.le_refl _),List.append_assoc]
 rw[e]at K hN;exact⟨p,c,by rw[hN],S.grown K.1,K.2.1,K.2.2.1,fun a h=>Nat.le_trans S.k.size (K.2.2.2 a h)⟩
theorem zi2{Bx:Nat->Prop}{w:World}{a:Addr}{es:List Ent}(H1:zU Bx w (.pointer (some a)) es)(few:es.length<=8)(hacc:∀R∈es.map (·.1),RH.Acc R):Calls prog 14 #[.pointer (some a)] w (zsC Bx w (.pointer (some a)) es (kc (es.map (·.1)))):=by
 have H0:Tq Bx w w (.pointer (some a)) es:=⟨H1,qy.qt (zdc w),zaX (zdc w)⟩
 obtain⟨⟨x,hd,r,hx0,hr1,hr2,hr3,_⟩,hls⟩:=id H0.tr
 obtain⟨q,c,hq⟩:∃q c,r = .slice q es.length c/\(es≠[]->∃y:Nat×Nat×Nat,q=some ⟨y.1,y.2.1,none⟩/\zw prog w y 42 (cellsOf es)):=by
  by_cases he:es=[]
  .exact⟨none,0,by rw[hr3.1 he,he];rfl,fun h=>absurd he h⟩
  .obtain⟨y,e,hy⟩:=hr3.2 he;exact⟨_,_,e,fun _=>⟨y,rfl,hy⟩⟩
 obtain⟨rfl,hrec⟩:=hq;have ha:a=⟨x.1,x.2.1,none⟩:=by cases hx0;rfl
 have hc0:w.cell? a=some (.slice q es.length c):=by rw[ha];exact TR.cell_of_row hr1 (j:=0) rfl
 have H:=hid H0;have HREC:=hid hrec;have FEW:=hid few;have ACC:=hid hacc;have hw64:IntKind.u64.wrap (es.length:Int)=(es.length:Int):=IntWalk.u64_in _ (by omega);clear H0 H1 hrec few hx0 hr1 hr2 hr3 hls ha hacc;go_enter func14,ntmps14
 go_wp2_with(first
  | (go_at_call 35;(with_reducible refine zyS.mono ?_);rintro e w1 ⟨bw,rfl,g1,k1⟩;have G1:=hid g1;have W1:=hid k1;have hc1:=yx hc0 g1;clear g1 k1)
  | (go_at_call 36;(with_reducible refine(uint_w W1.out G1.out.size (by have:=FEW.out;omega) (by simp)).mono ?_);rintro e w2 ⟨rfl,k1,k2,_⟩;have W2:=hid k1;have G2:=hid (WO G1.out k2);have hc2:=yx hc0 (WO G1.out k2);clear k1 k2))
 .go_loopg [23] es.length (fun k i wr=>zDH w bw es.length (es.map (·.1)) k i wr)
  case atStart=>exact⟨0,by omega,rfl,G2.out,by show Wr _ _ _ (put es.length++[]);rw[append_nil];exact W2.out⟩
  case round=>
   obtain⟨j,hj,rfl,hg,hw⟩:=hrel;have G3:=hid hg;have W3:=hid hw;clear hg hw
   cases gk with
   | zero=>
    have hjm:¬((j:Int)<(es.length:Int)):=by omega
    have hjl:RowKit.Hid (j=es.length):=hid (by omega)
    have LEN:RowKit.Hid ((put es.length++qY ((es.map (·.1)).take j)).length<=90000):=hid (by
     have h2:=Ky (Rs:=(es.map (·.1)).take j) fun x hx=>ACC.out x (mem_of_mem_take hx);have h3:=kK (v:=es.length) (by have:=FEW.out;omega);rw[length_take,length_map]at h2;rw[length_append];have:=FEW.out
     omega)
    have LE:RowKit.Hid (((put es.length++qY ((es.map (·.1)).take j))++jZ (es.map (·.1))).length<=100000):=hid (by rw[length_append,ZO];have:=LEN.out;omega);have LT:RowKit.Hid (∀y∈(put es.length++qY ((es.map (·.1)).take j))++jZ (es.map (·.1)),y<256):=hid (zsl _ _ _);obtain⟨N,hN⟩:∃N,((put es.length++qY ((es.map (·.1)).take j))++jZ (es.map (·.1))).length=N:=⟨_,rfl⟩
    have LN:=hid hN;clear hN;obtain⟨cs,hcs⟩:∃cs,cs=zF 32 (qN (es.map (·.1))):=⟨_,rfl⟩
    have HCS:=hid hcs;clear hcs
    go_wp2_with(first
     | (go_at_call 8;(with_reducible refine(zw7 (H.out.grown G3.out) FEW.out HCS.out).mono ?_);rintro e w6 ⟨rfl,k1,k2⟩;have S6:=hid k1;have K6:=hid k2;clear k1 k2)
     | (refine zg7 _ _ _ rfl rfl HCS.out rfl rfl rfl ?_;intro w7 k1 k2;have L7:=hid k1;have G7:=hid k2;have S7:=hid (S6.out.grown k2);have W7:=hid (XS (zoZ W3.out K6.out) k2);clear k1 k2)
     | (go_at_call 38;(with_reducible refine(zwC W7.out (Nat.le_trans (Nat.le_trans G3.out.size K6.out.size) G7.out.size) (ziD L7.out HCS.out) (ZO _) LEN.out).mono ?_);rintro e w8 ⟨rfl,k1,k2,k3⟩;have W8:=hid k1;have S8:=hid (zwc S7.out W7.out k3 k2);clear k1 k2 k3)
     | (go_at_call 39;(with_reducible refine(zyH W8.out LT.out LE.out LN.out).mono ?_);rintro e w9 ⟨p9,c9,rfl,k1,k2,k3,k4⟩;have K9:=hid (And.intro k1 (And.intro k2 (And.intro k3 k4)));clear k1 k2 k3 k4))
    go_ret
    exact zoM hjl.out LN.out K9.out S8.out
   | succ k=>
    have hjm:(j:Int)<(es.length:Int):=by omega
    obtain⟨y,rfl,hy⟩:=HREC.out (by intro h;rw[h]at hjm;simp at hjm;omega);obtain⟨R,p1,p2,n1,n2,c1,c2,he,hu,hd'⟩:=zrI (H.out.tr.lists) (j:=j) (by omega);obtain⟨d0,d1,d2,d3,d4,d5,d6,d7,d8,d9,d10,d11,d12,d13⟩:=ZC (kU G3.out hy) he;have HE:=hid he;have HU:=hid hu;have HDn:=hid hd';have NTH:RowKit.Hid ((es.map (·.1))[j]?=some R):=hid (by rw[List.getElem?_map,he];rfl);have GOOD:=hid (ACC.out R (List.mem_of_getElem? NTH.out)).good
    have LEN:RowKit.Hid ((put es.length++qY ((es.map (·.1)).take j)).length+R.qi.bytes.length<=90000):=hid (by
     have hR:=ACC.out R (List.mem_of_getElem? NTH.out);have h1:=Qs hR.ok hR.good hR.day;have h2:=Ky (Rs:=(es.map (·.1)).take j) fun x hx=>ACC.out x (mem_of_mem_take hx);have h3:=kK (v:=es.length) (by have:=FEW.out;omega);rw[length_take,length_map]at h2;rw[length_append];have:=FEW.out
     omega)
    clear he hu hd' hy
    go_wp2_with(first
     | (go_at_call 32;(with_reducible refine(zzG GOOD.out ((qy.qt (G3.out.trans' (zE _ _))).atS HU.out) ((qy.qt (G3.out.trans' (zE _ _))).atS HDn.out)).mono ?_);rintro e w4 ⟨b4,o4,c4,rfl,k1,k2,k3,k4⟩;have I4:=hid k1;have G4:=hid k2;have N4:=hid k3;clear k1 k2 k3 k4)
     | (go_at_call 37;(with_reducible refine(zu6 (XS (XS W3.out (zE _ _)) G4.out) (Nat.le_trans (Nat.le_trans G3.out.size (zE _ _).size) G4.out.size) I4.out (zo0 (XS W3.out (zE _ _)) G4.out N4.out) (zfS R) LEN.out).mono ?_);rintro e w5 ⟨rfl,k1,k2⟩;have W5:=hid k1;have L5:=hid k2;clear k1 k2))
    go_roundg k
    case measure=>omega
    case rel=>exact⟨j+1,by omega,(by rw[show RowKit.wrap64 ((j:Int)+1)=(j:Int)+1 by unfold RowKit.wrap64;have:=FEW.out;omega];rfl),WO ((G3.out.trans' (zE _ _)).trans' G4.out) L5.out,by rw[zeD NTH.out,<- List.append_assoc];exact W5.out⟩
end RD
end
noncomputable section
open Go Go.Proofs TR
open Go.AuditPlain (hi put qA zt qk numbers zig)
namespace RD
def t14(_:zy):List Nat:=[]
def t13(R:zy):List Nat:=qk R.deep++t14 R
def t12(R:zy):List Nat:=zt (zA R.at_)++t13 R
def t11(R:zy):List Nat:=zt (zA R.does)++t12 R
def t10(R:zy):List Nat:=numbers (zB R.down)++t11 R
def t9(R:zy):List Nat:=numbers (zB R.up)++t10 R
def t8(R:zy):List Nat:=put R.user.toNat++t9 R
def t7(R:zy):List Nat:=qk R.granted++t8 R
def t6(R:zy):List Nat:=put R.day.toNat++t7 R
def t5(R:zy):List Nat:=zt (zA R.path)++t6 R
def t4(R:zy):List Nat:=zt (zA R.action)++t5 R
def t3(R:zy):List Nat:=qA R.session++t4 R
def t2(R:zy):List Nat:=zt (zA R.tenant)++t3 R
def t1(R:zy):List Nat:=put R.version.toNat++t2 R
def t0(R:zy):List Nat:=put R.number.toNat++t1 R
theorem zlQ(R:zy):R.qi.bytes=t0 R:=by
 unfold t0 t1 t2 t3 t4 t5 t6 t7 t8 t9 t10 t11 t12 t13 t14;rw[append_nil];rfl
section
variable{w0 w:World}{b g x r:Nat}{L L' l:List Nat}{vs:List Value}{Z:List (Value×List Nat)}
theorem zf6(h:Dec w0 w b g x r L vs Z 0)(m:Nat){k v:Int}(c:(m:Int)=k)(hb:m<=9000000000000000000)(hv:0<=v)(a:uintR m L=some (v.toNat,L')):Calls prog 91 #[.pointer (some ⟨b,0,none⟩),.int .i64 k] w (zoS w0 b g x r L' vs Z (.int .i64 v)):=by
 subst c;have:=zwO h hb a;rwa[Int.toNat_of_nonneg hv]at this
theorem zho(h:Dec w0 w b g x r L vs Z 0){m:Nat}{s:ByteArray}(hb:m<=1000000)(a:jS m L=some (zA s,L')):Calls prog 92 #[.pointer (some ⟨b,0,none⟩),.int .i64 (m:Nat)] w (zoS w0 b g x r L' vs Z (.string s)):=by
 have:=zxY h hb a;rw[@kz unk0]at this;exact this
def RoP(w0:World)(b g x r:Nat)(L:List Nat)(vs:List Value)(Z:List (Value×List Nat))(l:List Nat)(e:Ending)(w2:World):Prop:=∃p n c,e = .returned (.slice p n c)/\Dec w0 w2 b g x r L vs ((.slice p n c,l)::Z) 0
theorem zl2(h:Dec w0 w b g x r (numbers l++L') vs Z 0)(i:g<w.heap.size)(hl:l.length<=63)(c:∀n∈l,n<=63):Calls prog 95 #[.pointer (some ⟨b,0,none⟩)] w (RoP w0 b g x r L' vs Z l):=by
 refine(zj5 h.at_ i hl c).mono fun e w2 k=>?_;obtain⟨v,rfl,a,k2,k3⟩:=k
 have hd:∀v,yb w.heap.size w2 v l->Dec w0 w2 b g x r L' vs ((v,l)::Z) 0:=fun v hv=>by
  obtain⟨zs,_,f⟩:=h.res;have d:=h.only k3 k2;refine { d with li:=fun q hq=>?_ };rcases List.mem_cons.1 hq with rfl|hq
  .exact⟨w.heap.size,block_lt_of_cell? w _ h.at_.err,zw.lt h.row,zw.lt f,hv⟩
  .exact d.li q hq
 by_cases hn:l=[]
 .obtain rfl:=a.1 hn;exact⟨none,0,0,rfl,hd _ a⟩
 .obtain⟨y,rfl,_⟩:=a.2 hn;exact⟨_,_,_,rfl,hd _ a⟩
end
theorem zhx{R:zy}(h:EN.Good R):R.tenant.size<=16:=by have:=KQ h.name.1;omega
theorem zhz{R:zy}(h:EN.Good R):R.action.size<=16:=by have:=KQ h.name.2.2.1;omega
theorem znq{R:zy}(h:EN.Good R):R.path.size<=16:=by have:=zhP h.name.2.2.2.1;omega
theorem znr{R:zy}(h:EN.Good R):R.does.size<=16:=by have:=h.ok.does.UP;omega
theorem zpv{R:zy}(h:EN.Good R):R.at_.size<=16:=by have:=h.ok.at_.UP;omega
theorem zq3{o:Option ByteArray}:(zB o).length=qo o:=rfl
theorem zmc(n:Nat)(L:List Nat):put n++L≠[]:=by
 have:=EN.KC n;intro h;rw[append_eq_nil_iff]at h;rw[h.1]at this;exact absurd this (by decide)
theorem zcF(l L:List Nat):numbers l++L≠[]:=by
 unfold numbers;rw[List.append_assoc];exact zmc _ _
theorem At.glt{w:World}{b g:Nat}{L:List Nat}{e:Int}(h:At w b g L e)(hn:L≠[]):g<w.heap.size:=by
 obtain⟨p,c,h1,h2,h3,a⟩:=h.left;obtain⟨b',o,rfl,hc⟩:=h3.2 hn;have:=a _ rfl
 cases L with
 | nil=>exact absurd rfl hn
 | cons y L=>
  have hb:=block_lt_of_cell? w _ (hc 0 y rfl);show g<_;rw[<- this];exact hb
theorem glt{w0 w:World}{b g x r:Nat}{L:List Nat}{vs:List Value}{Z:List (Value×List Nat)}{a:Int}(h:Dec w0 w b g x r L vs Z a)(hn:L≠[]):g<w.heap.size:=h.at_.glt hn
theorem zh4{w:World}{p:Option Addr}{c N:Nat}{L:List Nat}(a:RowKit.Hid (In w p L))(hN:RowKit.Hid (L.length=N))(hlen:N<=100000){z:Obj}:Calls prog 40 #[.slice p N c] (w.alloc z) (zoQ (w.alloc z) L):=by
 have hN:=hN.out;subst hN;exact VN (Wj a.out (zE w z)) hlen
theorem qF{w0 w:World}{b g x r:Nat}{L:List Nat}{vs:List Value}{Z:List (Value×List Nat)}{d:Int}(h:Dec w0 w b g x r L vs Z d){k:Nat}(f:k<14):∃v,w.cell? ⟨r,k,none⟩=some v/\w.frozen? ⟨r,k,none⟩=false:=by
 obtain⟨zs,e,c⟩:=h.res;have a:k<zs.length:=by omega
 refine⟨zs[k],?_⟩;have hc:=TR.cell_of_row c (List.getElem?_eq_getElem a);rw[Nat.zero_add]at hc;refine⟨hc,?_⟩;obtain⟨arr,fz,h1,h2,h3,_⟩:=c;have h2:0+zs.length+0*qX prog 42<=arr.size:=h2;unfold World.frozen?;rw[show w.heap[r]?=_ from h1];have:=h3 k (by omega);show(decide (fz.1<=k)&&decide (k<fz.2))=false;rw[Bool.and_eq_false_iff,decide_eq_false_iff_not,decide_eq_false_iff_not];omega
def zeroV:List Value:=[.int .i64 0,.int .i64 0,.string ⟨#[]⟩,.int .i64 0,.string ⟨#[]⟩,.string ⟨#[]⟩,.int .i64 0,.bool false,.int .i64 0,.slice none 0 0,.slice none 0 0,.string ⟨#[]⟩,.string ⟨#[]⟩,.bool false]
theorem zeB(w:World){t:TypeId}{vs:List Value}{a:Array Value}(c:a.toList=vs):zw prog (w.alloc (.cells a t)) (w.heap.size,0,0) t vs:=by
 subst c;refine⟨a,(0,0),heap_alloc_new w _,?_,fun i _=>by omega,⟨0,rfl⟩,fun j _=>?_⟩
 .show 0+a.toList.length+0*_<=_;rw[Array.length_toList];omega
 .rw[Nat.zero_add,getElem?_toList]
theorem zmP{w w2:World}{b g:Nat}{L:List Nat}(hb:(w.alloc (.cells #[.int .i64 0,.int .i64 0,.string ⟨#[]⟩,.int .i64 0,.string ⟨#[]⟩,.string ⟨#[]⟩,.int .i64 0,.bool false,.int .i64 0,.slice none 0 0,.slice none 0 0,.string ⟨#[]⟩,.string ⟨#[]⟩,.bool false] 42)).heap.size<=b)(_h:(w.alloc (.cells #[.int .i64 0,.int .i64 0,.string ⟨#[]⟩,.int .i64 0,.string ⟨#[]⟩,.string ⟨#[]⟩,.int .i64 0,.bool false,.int .i64 0,.slice none 0 0,.slice none 0 0,.string ⟨#[]⟩,.string ⟨#[]⟩,.bool false] 42)).heap.size<=g)(hn:g≠w2.heap.size)(d:At w2 b g L 0)(f:Grown (w.alloc (.cells #[.int .i64 0,.int .i64 0,.string ⟨#[]⟩,.int .i64 0,.string ⟨#[]⟩,.string ⟨#[]⟩,.int .i64 0,.bool false,.int .i64 0,.slice none 0 0,.slice none 0 0,.string ⟨#[]⟩,.string ⟨#[]⟩,.bool false] 42)) w2):Dec w (w2.alloc (.cells #[.int .i64 0,.int .i64 0,.string ⟨#[]⟩,.int .i64 0,.string ⟨#[]⟩,.string ⟨#[]⟩,.int .i64 0,.bool false,.int .i64 0,.slice none 0 0,.slice none 0 0,.string ⟨#[]⟩,.string ⟨#[]⟩,.bool false] 42)) b g w2.heap.size w.heap.size L zeroV [] 0:=by
 have hs:(w.alloc (.cells #[.int .i64 0,.int .i64 0,.string ⟨#[]⟩,.int .i64 0,.string ⟨#[]⟩,.string ⟨#[]⟩,.int .i64 0,.bool false,.int .i64 0,.slice none 0 0,.slice none 0 0,.string ⟨#[]⟩,.string ⟨#[]⟩,.bool false] 42)).heap.size=w.heap.size+1:=by unfold World.alloc;simp
 have g1:=f.trans' (zE w2 (.cells #[.int .i64 0,.int .i64 0,.string ⟨#[]⟩,.int .i64 0,.string ⟨#[]⟩,.string ⟨#[]⟩,.int .i64 0,.bool false,.int .i64 0,.slice none 0 0,.slice none 0 0,.string ⟨#[]⟩,.string ⟨#[]⟩,.bool false] 42));have c:=block_lt_of_cell? w2 _ d.err;have a:=f.size;rw[hs]at hb _h a;exact⟨d.grown (zE w2 _),zeB w2 rfl,⟨zeroV,rfl,kU g1 (zeB w rfl)⟩,(zE w _).trans' g1,Nat.ne_of_gt c,by omega,fun e=>hn e.symm,by omega,by omega,Nat.le_refl _,by omega,fun q hq=>by cases hq⟩
theorem zeP(b:Nat):∀(vs:List Value) (o:Nat) (w:World),j6 b w (w.setCells b o vs)
 | [],_,w=>j6.refl b w
 | v::vs,o,w=>(kL b o v w).trans (zeP b vs (o+1) (w.setCell ⟨b,o,none⟩ v))
theorem ziR{w W:World}{b g x r:Nat}{L:List Nat}{vs:List Value}{Z:List (Value×List Nat)}{i:Int}(h:Dec w W b g x r L vs Z i)(V:List Value)(m:V.length=14):Grown w (W.setCells r 0 V).drew/\(W.setCells r 0 V).drew.rangeAt r 0 V/\∀q∈Z,∃B,yb B (W.setCells r 0 V).drew q.1 q.2:=by
 have o:=(zeP r V 0 W).trans (j6.qt (JH _));refine⟨⟨fun c hc=>by rw[o.old c (Nat.lt_of_lt_of_le hc h.gr.size) (by have:=h.r0;omega),h.gr.old c hc],Nat.le_trans h.gr.size o.size,o.tape.trans h.gr.tape,o.os.trans h.gr.os,o.output.trans h.gr.output⟩,?_,fun q hq=>?_⟩
 .obtain⟨zs,k,⟨arr,fz,h1,h2,_⟩⟩:=h.res;have h2:0+zs.length+0*qX prog 42<=arr.size:=h2;obtain⟨d,g1,n,f,_⟩:=ky r V 0 W arr 42 fz h1 (by omega);intro j v a;have hl:=(List.getElem?_eq_some_iff.1 a).1;have:=f j hl;unfold World.cell?;rw[show(W.setCells r 0 V).drew.heap[r]?=_ from g1];exact this.trans a
 .obtain⟨B,h1,h2,h3,e⟩:=h.li q hq;exact⟨B,WW e h3 o⟩
theorem zl4{tmps:Array Value}{W:World}{r:Nat}{V:List Value}{v:Value}(hp:tmps.getD 2 undef = .pointer (some ⟨r,0,none⟩))(h3:tmps.getD 3 undef=v)(e:W.rangeAt r 0 V)(f:V.length=14):(results f42 tmps).run prog W = .ok (.tuple #[.agg V.toArray,v]) W:=by
 have c:(Tryz.prog.underlying 42).map (·.isRow)=some true:=by kernel_rfl
 have k2:(Tryz.prog.info? 42).map (·.size)=some 14:=by kernel_rfl
 obtain⟨d,hd,a⟩:=Option.map_eq_some_iff.1 c;have hl:=run_loadVar_mid (P:=prog) W r 0 42 V d e hd a (by rw[f];exact k2);rw[results_cell_tmp (fn:=f42) (p:=2) (u:=3) (ty:=42) rfl,hp,h3];simp[asAddr,Result.andThen,hl]
def nrm(o:Option ByteArray):Option ByteArray:=if zB o=[] then none else o
theorem Wd(o:Option ByteArray):zB (nrm o)=zB o:=by
 unfold nrm;split
 .rename_i h;rw[h];rfl
 .rfl
theorem ziz{B:Nat}{w:World}{v:Value}{o:Option ByteArray}(h:yb B w v (zB o)):AtS w v (nrm o):=by
 unfold nrm;split
 .rename_i hn;exact h.1 hn
 .rename_i hn
  cases o with
  | none=>exact absurd rfl hn
  | some s=>
   obtain⟨x,rfl,⟨arr,fz,h1,h2,h3,_,c⟩,_⟩:=h.2 hn;have hl:(zB (some s)).length=s.size:=zW s;have a:qX prog 3=1:=by kernel_rfl
   rw[km,hl,a]at h2;refine⟨(x.1,x.2.1,s.size+x.2.2),arr,fz,by rw[hl],h1,Nat.le_add_right _ _,(show x.2.1+(s.size+x.2.2)<=arr.size by omega),fun i b hb=>?_,h3⟩;have hi:i<s.size:=(Array.getElem?_eq_some_iff.1 hb).1;rw[show arr[x.2.1+i]?=_ from c i (by rw[km,hl];exact hi)];unfold Vr;rw[List.getElem?_map,show(zB (some s))[i]?=some b.toNat from ?_]
   .rfl
   .show(zA s)[i]?=_;unfold zA;rw[jn,List.getElem?_map,getElem?_toList,hb];rfl
def zsB(w:World)(R:zy)(e:Ending)(w2:World):Prop:=∃p1 n1 c1 p2 n2 c2,e = .returned (.tuple #[zbn R p1 p2 n1 n2 c1 c2,.bool true])/\Grown w w2/\AtS w2 (.slice p1 n1 c1) (nrm R.up)/\AtS w2 (.slice p2 n2 c2) (nrm R.down)
theorem zrS{w:World}{p:Option Addr}{c N:Nat}{R:zy}(hi:In w p R.qi.bytes)(hN:R.qi.bytes.length=N)(hg:EN.Good R)(hdy:R.day<=30000):Calls prog 42 #[.slice p N c] w (zsB w R):=by
 have hok:=hg.ok;have hver:=hg.ver;have hc:=hg.chain;have hbl:=Qs hok hg hdy;rw[hN]at hbl;have r0:=hid (show uintR 4000 (t0 R)=some (R.number.toNat,t1 R) from uint_put (by have:=hok.number;omega) (by decide) _);have V0:RowKit.Hid (0<=R.number):=hid (by have:=hok.number;omega);have r1:=hid (show uintR 2147483647 (t1 R)=some (R.version.toNat,t2 R) from uint_put (by have:=hok.version;omega) (by decide) _);have V1:RowKit.Hid (0<=R.version):=hid (by have:=hok.version;have:=hver;omega);have r2:=hid (show jS N (t2 R)=some (zA R.tenant,t3 R) from Jp (by rw[zW];have:=zhx hg;omega) (by omega) _);have r3:=hid (show zn6 (t3 R)=some (R.session,t4 R) from ztG (by have:=hok.session;omega) _);have r4:=hid (show jS N (t4 R)=some (zA R.action,t5 R) from Jp (by rw[zW];have:=zhz hg;omega) (by omega) _);have r5:=hid (show jS N (t5 R)=some (zA R.path,t6 R) from Jp (by rw[zW];have:=znq hg;omega) (by omega) _);have r6:=hid (show uintR 30000 (t6 R)=some (R.day.toNat,t7 R) from uint_put (by have:=hok.day;have:=hdy;omega) (by decide) _);have V6:RowKit.Hid (0<=R.day):=hid (by have:=hok.day;omega);have r7:=hid (show ziM (t7 R)=some (R.granted,t8 R) from ziL _ _);have r8:=hid (show uintR 256 (t8 R)=some (R.user.toNat,t9 R) from uint_put (by have:=hok.user;omega) (by decide) _);have V8:RowKit.Hid (0<=R.user):=hid (by have:=hok.user;omega);have r9:RowKit.Hid ((zB R.up).length<=63):=hid (by have:=hc.2.1;have h5:=zq3 (o:=R.up);omega);have s9:RowKit.Hid (∀n∈zB R.up,n<=63):=hid fun n hn=>hc.2.2.2.2.1 n (List.mem_append_left _ hn);have r10:RowKit.Hid ((zB R.down).length<=63):=hid (by have:=hc.2.2.1;have h5:=zq3 (o:=R.down);omega);have s10:RowKit.Hid (∀n∈zB R.down,n<=63):=hid fun n hn=>hc.2.2.2.2.1 n (List.mem_append_right _ hn);have r11:=hid (show jS N (t11 R)=some (zA R.does,t12 R) from Jp (by rw[zW];have:=znr hg;omega) (by omega) _);have r12:=hid (show jS N (t12 R)=some (zA R.at_,t13 R) from Jp (by rw[zW];have:=zpv hg;omega) (by omega) _);have r13:=hid (show ziM (t13 R)=some (R.deep,t14 R) from ziL _ _);have NB:RowKit.Hid (N<=1000000):=hid (by omega);have NBB:RowKit.Hid (N<=100000):=hid (by omega);have HI:=hid (show In w p (t0 R) by rw[<- zlQ];exact hi);have HN:RowKit.Hid ((t0 R).length=N):=hid (by rw[<- zlQ];exact hN);clear hi hN hg hdy hok hver hc hbl;go_enter func42,ntmps42
 go_wp2_with(first
  | (go_at_call 40;(with_reducible refine(zh4 HI HN NBB.out).mono ?_);rintro e w0 ⟨b,g,rfl,kb,kg,kn,ka,kr,_⟩;have D0:=hid (zmP (L:=t0 R) kb kg kn ka kr);clear kb kg kn ka kr)
  | (go_at_call 91;(with_reducible refine(zf6 (k:=4000) D0.out 4000 rfl (by decide) V0.out r0.out).mono ?_);rintro e w1 ⟨rfl,kd⟩;have D1:=hid kd;have E1:=hid (kd.set 0 (.int .i64 R.number) (by first|decide|(simp only[length_set];decide)));obtain⟨x1,y1⟩:=zI kd (k:=0) rfl;clear kd)
  | (go_at_call 91;(with_reducible refine(zf6 (k:=2147483647) E1.out 2147483647 rfl (by decide) V1.out r1.out).mono ?_);rintro e w2 ⟨rfl,kd⟩;have D2:=hid kd;have E2:=hid (kd.set 1 (.int .i64 R.version) (by first|decide|(simp only[length_set];decide)));obtain⟨x2,y2⟩:=zI kd (k:=1) rfl;clear kd)
  | (go_at_call 92;(with_reducible refine(zho E2.out NB.out r2.out).mono ?_);rintro e w3 ⟨rfl,kd⟩;have D3:=hid kd;have E3:=hid (kd.set 2 (.string R.tenant) (by first|decide|(simp only[length_set];decide)));obtain⟨x3,y3⟩:=zI kd (k:=2) rfl;clear kd)
  | (go_at_call 93;(with_reducible refine(zzs E3.out r3.out).mono ?_);rintro e w4 ⟨rfl,kd⟩;have D4:=hid kd;have E4:=hid (kd.set 3 (.int .i64 R.session) (by first|decide|(simp only[length_set];decide)));obtain⟨x4,y4⟩:=zI kd (k:=3) rfl;clear kd)
  | (go_at_call 92;(with_reducible refine(zho E4.out NB.out r4.out).mono ?_);rintro e w5 ⟨rfl,kd⟩;have D5:=hid kd;have E5:=hid (kd.set 4 (.string R.action) (by first|decide|(simp only[length_set];decide)));obtain⟨x5,y5⟩:=zI kd (k:=4) rfl;clear kd)
  | (go_at_call 92;(with_reducible refine(zho E5.out NB.out r5.out).mono ?_);rintro e w6 ⟨rfl,kd⟩;have D6:=hid kd;have E6:=hid (kd.set 5 (.string R.path) (by first|decide|(simp only[length_set];decide)));obtain⟨x6,y6⟩:=zI kd (k:=5) rfl;clear kd)
  | (go_at_call 91;(with_reducible refine(zf6 (k:=30000) E6.out 30000 rfl (by decide) V6.out r6.out).mono ?_);rintro e w7 ⟨rfl,kd⟩;have D7:=hid kd;have E7:=hid (kd.set 6 (.int .i64 R.day) (by first|decide|(simp only[length_set];decide)));obtain⟨x7,y7⟩:=zI kd (k:=6) rfl;clear kd)
  | (go_at_call 94;(with_reducible refine(zrC E7.out r7.out).mono ?_);rintro e w8 ⟨rfl,kd⟩;have D8:=hid kd;have E8:=hid (kd.set 7 (.bool R.granted) (by first|decide|(simp only[length_set];decide)));obtain⟨x8,y8⟩:=zI kd (k:=7) rfl;clear kd)
  | (go_at_call 91;(with_reducible refine(zf6 (k:=256) E8.out 256 rfl (by decide) V8.out r8.out).mono ?_);rintro e w9 ⟨rfl,kd⟩;have D9:=hid kd;have E9:=hid (kd.set 8 (.int .i64 R.user) (by first|decide|(simp only[length_set];decide)));obtain⟨x9,y9⟩:=zI kd (k:=8) rfl;clear kd)
  | (go_at_call 95;(with_reducible refine(zl2 (L':=t10 R) E9.out (glt E9.out (zcF _ _)) r9.out s9.out).mono ?_);rintro e w10 ⟨p1,n1,c1,rfl,kd⟩;have D10:=hid kd;have E10:=hid (kd.set 9 (.slice p1 n1 c1) (by first|decide|(simp only[length_set];decide)));obtain⟨x10,y10⟩:=zI kd (k:=9) rfl;clear kd)
  | (go_at_call 95;(with_reducible refine(zl2 (L':=t11 R) E10.out (glt E10.out (zcF _ _)) r10.out s10.out).mono ?_);rintro e w11 ⟨p2,n2,c2,rfl,kd⟩;have D11:=hid kd;have E11:=hid (kd.set 10 (.slice p2 n2 c2) (by first|decide|(simp only[length_set];decide)));obtain⟨x11,y11⟩:=zI kd (k:=10) rfl;clear kd)
  | (go_at_call 92;(with_reducible refine(zho E11.out NB.out r11.out).mono ?_);rintro e w12 ⟨rfl,kd⟩;have D12:=hid kd;have E12:=hid (kd.set 11 (.string R.does) (by first|decide|(simp only[length_set];decide)));obtain⟨x12,y12⟩:=zI kd (k:=11) rfl;clear kd)
  | (go_at_call 92;(with_reducible refine(zho E12.out NB.out r12.out).mono ?_);rintro e w13 ⟨rfl,kd⟩;have D13:=hid kd;have E13:=hid (kd.set 12 (.string R.at_) (by first|decide|(simp only[length_set];decide)));obtain⟨x13,y13⟩:=zI kd (k:=12) rfl;clear kd)
  | (go_at_call 94;(with_reducible refine(zrC E13.out r13.out).mono ?_);rintro e w14 ⟨rfl,kd⟩;have D14:=hid kd;have E14:=hid (kd.set 13 (.bool R.deep) (by first|decide|(simp only[length_set];decide)));obtain⟨x14,y14⟩:=zI kd (k:=13) rfl;clear kd))
 clear x14 y14;generalize w14.setCell _ _=W at *;have cc0:=(zI E14.out (k:=0) rfl).1;obtain⟨z0,q0,f0⟩:=qF E14.out (k:=0) (by decide);have cc1:=(zI E14.out (k:=1) rfl).1;obtain⟨z1,q1,f1⟩:=qF E14.out (k:=1) (by decide);have cc2:=(zI E14.out (k:=2) rfl).1;obtain⟨z2,q2,f2⟩:=qF E14.out (k:=2) (by decide);have cc3:=(zI E14.out (k:=3) rfl).1;obtain⟨z3,q3,f3⟩:=qF E14.out (k:=3) (by decide);have cc4:=(zI E14.out (k:=4) rfl).1;obtain⟨z4,q4,f4⟩:=qF E14.out (k:=4) (by decide);have cc5:=(zI E14.out (k:=5) rfl).1;obtain⟨z5,q5,f5⟩:=qF E14.out (k:=5) (by decide);have cc6:=(zI E14.out (k:=6) rfl).1;obtain⟨z6,q6,f6⟩:=qF E14.out (k:=6) (by decide);have cc7:=(zI E14.out (k:=7) rfl).1;obtain⟨z7,q7,f7⟩:=qF E14.out (k:=7) (by decide);have cc8:=(zI E14.out (k:=8) rfl).1;obtain⟨z8,q8,f8⟩:=qF E14.out (k:=8) (by decide);have cc9:=(zI E14.out (k:=9) rfl).1;obtain⟨z9,q9,f9⟩:=qF E14.out (k:=9) (by decide);have cc10:=(zI E14.out (k:=10) rfl).1;obtain⟨z10,q10,f10⟩:=qF E14.out (k:=10) (by decide);have cc11:=(zI E14.out (k:=11) rfl).1;obtain⟨z11,q11,f11⟩:=qF E14.out (k:=11) (by decide);have cc12:=(zI E14.out (k:=12) rfl).1;obtain⟨z12,q12,f12⟩:=qF E14.out (k:=12) (by decide);have cc13:=(zI E14.out (k:=13) rfl).1;obtain⟨z13,q13,f13⟩:=qF E14.out (k:=13) (by decide);all_goals(go_region_with(go_at_call 45;(with_reducible refine(zrJ (E14.out.at_.grown (JH _)) rfl).mono ?_);rintro e w15 ⟨rfl,rfl⟩))
 all_goals clear cc0 cc1 cc2 cc3 cc4 cc5 cc6 cc7 cc8 cc9 cc10 cc11 cc12 cc13
 all_goals go_wp2
 all_goals(
  (try simp only[Exit.inBlock,Exit.then])
  have hd:=ziR E14.out [.int .i64 R.number,.int .i64 R.version,.string R.tenant,.int .i64 R.session,.string R.action,.string R.path,.int .i64 R.day,.bool R.granted,.int .i64 R.user,.slice p1 n1 c1,.slice p2 n2 c2,.string R.does,.string R.at_,.bool R.deep] rfl;simp only[World.setCells,Nat.zero_add,Nat.reduceAdd]at hd;obtain⟨B1,i1⟩:=hd.2.2 (.slice p1 n1 c1,zB R.up) (mem_cons_of_mem _ mem_cons_self);obtain⟨B2,i2⟩:=hd.2.2 (.slice p2 n2 c2,zB R.down) mem_cons_self;refine bodyPost_ret (v:=.tuple #[zbn R p1 p2 n1 n2 c1 c2,.bool true]) ?_ rfl ⟨p1,n1,c1,p2,n2,c2,rfl,hd.1,ziz i1,ziz i2⟩
  exact zl4 rfl rfl hd.2.1 rfl)
end RD
end
end Go.AEv
