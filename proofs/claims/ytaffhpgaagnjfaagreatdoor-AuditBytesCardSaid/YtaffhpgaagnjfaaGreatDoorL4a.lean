/- Trails of an audit: calls and runs (L4a). Conditions: those of each theorem. -/
import Derived.Test.YtaffhpgaagnjfaaGreatDoorH3x0
open List Go.World Go.Lib Go.Proofs.Tryz Go.IntWalk
set_option maxHeartbeats 40000000
set_option maxRecDepth 100000
namespace Go.AEv
section
open Go Go.Proofs TR
open Go.AuditPlain (put zt)
open KT (zF)
namespace RD
theorem ztn{w w2:World}{u:Value}{L:List Nat}{k:Nat}(h:XP prog .u8 5 w w2 (str L) u k)(i:∀y∈L,y<256)(f:L≠[]):∃b o c,u = .slice (some ⟨b,o,none⟩) L.length c/\qO w.heap.size w2 u L:=by
 obtain⟨x,arr,fz,_,hn⟩:=h;have a:(str L).size=L.length:=@qm unk0 L;have d:=hn.cap;have e:=hn.size;rw[a]at d;refine⟨x.1,x.2.1,x.2.2,by rw[hn.is,a],fun h=>absurd h f,fun _=>⟨(x.1,x.2.1,x.2.2-L.length),?_,⟨arr,fz,hn.row,?_,hn.thaw,?_,fun j g=>?_⟩,hn.new⟩⟩
 .rw[hn.is,a,show L.length+(x.2.2-L.length)=x.2.2 by omega]
 .rw[jt,Vk,Nat.mul_one];show x.2.1+L.length+(x.2.2-L.length)<=arr.size;omega
 .rw[Vk];exact Nat.one_dvd _
 .rw[jt]at g;have hi:L[j]?=some L[j]:=List.getElem?_eq_getElem g
  have hc:(str L).data[j]?=some (UInt8.ofNat L[j]):=by
   unfold str;rw[getElem?_toArray,List.getElem?_map,hi];rfl
  have:=hn.cell j _ hc;rw[UInt8.toNat_ofNat',Nat.mod_eq_of_lt (i _ (List.mem_of_getElem? hi))]at this;rw[show arr[(x.1,x.2.1,x.2.2-L.length).2.1+j]?=_ from this];unfold qM;rw[List.getElem?_map,hi];rfl
theorem Ug{w:World}{b o:Nat}{L:List Nat}(h:In w (some ⟨b,o,none⟩) L):∀i y,L[i]?=some y->w.cell? ⟨b,o+i,none⟩=some (.int .u8 (y:Nat)):=by
 intro i y hi;have hn:L≠[]:=fun e=>by rw[e]at hi;cases hi
 obtain⟨b',a,e,hc⟩:=h.2 hn;cases e;exact hc i y hi
theorem zaD{w a w2:World}{v:Value}{L:List Nat}(g:Grown w a)(k:Y1 v a w2)(hb:qO w.heap.size a v L):Grown w w2:=WO g (UK k hb g.size)
def zxF(w:World)(L:List Nat)(e:Ending)(w2:World):Prop:=∃b o c,e = .returned (.slice (some ⟨b,o,none⟩) L.length c)/\Grown w w2/\In w2 (some ⟨b,o,none⟩) L/\w.heap.size<=b
theorem zmb{v:Nat}(hv:v<2097152){w:World}:Calls prog 46 #[.int .u64 (v:Nat)] w fun e w2=>∃b o c,e = .returned (.slice (some ⟨b,o,none⟩) (put v).length c)/\Grown w w2/\qO w.heap.size w2 (.slice (some ⟨b,o,none⟩) (put v).length c) (put v):=by
 refine(KE hv w).mono fun e w2 k=>?_;obtain⟨g,u,a,rfl,hn⟩:=k;obtain⟨b,o,c,rfl,hb⟩:=ztn hn Qg (zcp v);exact⟨b,o,c,rfl,g,hb⟩
theorem zpL{w a w2:World}{v:Value}{q:Addr}{n c:Nat}{L M:List Nat}(g:Grown w a)(k:Y1 v a w2)(hb:qO w.heap.size a v L)(h:qO w.heap.size w2 (.slice (some q) n c) M)(b:M≠[])(d:∀y∈M,y<256)(hn:n=M.length):zxF w M (.returned (.slice (some q) n c)) w2:=by
 subst hn;obtain⟨x,e,hx,f⟩:=h.2 b;cases e;exact⟨_,_,_,rfl,zaD g k hb,XD h d,f⟩
theorem zpU{w:World}{b o c:Nat}{M:List Nat}(hi:In w (some ⟨b,o,none⟩) M)(hne:M≠[])(hlen:M.length<=90000):Calls prog 47 #[.slice (some ⟨b,o,none⟩) M.length c] w (zxF w (zt M)):=by
 have HI:=hid hi;have HN:=hid hne;have HE:=hid hlen;have hw64:IntKind.u64.wrap (M.length:Int)=(M.length:Int):=u64_in _ (by omega);clear hi hne hlen;go_enter func47,ntmps47
 go_wp2_with(first
  | (go_at_call 46;(with_reducible refine(zmb (by have:=HE.out;omega)).mono ?_);rintro e w1 ⟨b1,o1,c1,rfl,g1,k1⟩;have G1:=hid g1;have K1:=hid k1;have C1:=hid (Ug ((fun h=>(⟨h.1,fun hn=>by obtain⟨b',o',e',hc⟩:=h.2 hn;exact⟨b',o',e',fun i x hx=>yx (hc i x hx) g1⟩⟩:In w1 _ M)) HI.out));clear g1 k1)
  | (at_builtin;refine zfu _ _ _ rfl rfl K1.out (by have:=kK (v:=M.length) (by have:=HE.out;omega);have:=HE.out;omega) HN.out G1.out.size rfl C1.out ?_;intro q2 c2 w2 k1 k2;have K2:=hid k1;have W2:=hid k2;clear k1 k2))
 go_ret
 exact zpL G1.out W2.out K1.out K2.out (by unfold zt;intro h;exact zcp _ (List.append_eq_nil_iff.1 h).1) (kq Qg HI.out.1) (by unfold zt;rw[length_append])
theorem zpm{Bx:Nat->Prop}{w0 w w2:World}{t want v:Value}{es fs:List Ent}{B:Nat}{L:List Nat}(H:St Bx w0 w t want es fs)(hb:qO B w v L)(k:Y1 v w w2)(G:w0.heap.size<=B):St Bx w0 w2 t want es fs:=by
 have key:∀ {x:Nat×Nat×Nat}{u:TypeId}{vs:List Value},u≠5->zw prog w x u vs->zw prog w2 x u vs:=by
  intro x u vs A h;refine @zw.heap unk0 _ _ _ _ _ _ h (k.Z4 _ (zw.lt h) fun p n m e he=>?_);by_cases b:L=[]
  .rw[hb.1 b]at e;cases e
  .obtain⟨y,f,a,_⟩:=hb.2 b;rw[f]at e;cases e;exact zw.ne h a A he.symm
 have lists:∀ {es:List Ent},jo w es->jo w2 es:=by
  intro es hl e he
  have one:∀ {v:Value}{o:Option ByteArray},AtS w v o->AtS w2 v o:=fun h=>WU h fun d arr fz hd=>by
   refine k.Z4 d (Array.getElem?_eq_some_iff.1 hd).1 fun p n m e he=>?_;by_cases b:L=[]
   .rw[hb.1 b]at e;cases e
   .obtain⟨y,f,a,_⟩:=hb.2 b;rw[f]at e;cases e;obtain⟨j,C,h',_⟩:=a;have he:y.1=d:=he;rw[he,hd]at h';simp only[Option.some.injEq,Obj.cells.injEq]at h';exact absurd h'.2.1 (by decide)
  exact⟨one (hl e he).1,one (hl e he).2⟩
 have hlow:∀c,c<w0.heap.size->w2.heap[c]?=w.heap[c]?:=fun c hc=>k.Z4 c (Nat.lt_of_lt_of_le hc H.g.size) fun p n m e he=>by
  by_cases b:L=[]
  .rw[hb.1 b]at e;cases e
  .obtain⟨y,f,_,a⟩:=hb.2 b;rw[f]at e;cases e;have he:y.1=c:=he;omega
 obtain⟨⟨x,hd,r,e,z,l,i,D⟩,ls⟩:=H.tr;refine⟨⟨fun c hc=>by rw[hlow c hc,H.g.old c hc],Nat.le_trans H.g.size k.size,k.tape.trans H.g.tape,k.os.trans H.g.os,k.output.trans H.g.output⟩,H.old,⟨⟨x,hd,r,e,key (by decide) z,key (by decide) l,⟨i.1,fun hn=>?_⟩,D⟩,lists ls⟩,⟨H.rows.1,fun hn=>?_⟩,H.low,lists H.lists,H.same,H.acc,H.hist⟩
 .obtain⟨y,e,a⟩:=i.2 hn;exact⟨y,e,key (by decide) a⟩
 .obtain⟨y,e,a⟩:=H.rows.2 hn;exact⟨y,e,key (by decide) a⟩
structure AI(Bx:Nat->Prop)(w0 w wr:World)(t want:Value)(es fs:List Ent)(v:Value)(L:List Nat):Prop where
 st:St Bx w0 wr t want es fs
 kw:Vu want w wr
 sz:w.heap.size<=wr.heap.size
 out:qO w.heap.size wr v L
 n0:w0.heap.size<=w.heap.size
theorem Yt{B:Nat}{w w2:World}{v:Value}{L:List Nat}(h:qO B w v L)(g:Grown w w2):qO B w2 v L:=
 ⟨h.1,fun hn=>by obtain⟨x,e,hx,a⟩:=h.2 hn;exact⟨x,e,kU g hx,a⟩⟩
section
variable{Bx:Nat->Prop}{w0 w wr wr2:World}{t want v:Value}{es fs:List Ent}{L:List Nat}
theorem AI.grown(h:AI Bx w0 w wr t want es fs v L)(g:Grown wr wr2):AI Bx w0 w wr2 t want es fs v L:=
 ⟨h.st.grown g,fun c hc hn=>by rw[g.old c (Nat.lt_of_lt_of_le hc h.sz),h.kw c hc hn],Nat.le_trans h.sz g.size,Yt h.out g,h.n0⟩
theorem AI.wrote{v2:Value}{a:List Nat}(h:AI Bx w0 w wr t want es fs v L)(k:Y1 v wr wr2)(hb:qO w.heap.size wr2 v2 a):AI Bx w0 w wr2 t want es fs v2 a:=
 ⟨zpm h.st h.out k h.n0,fun c hc hn=>by rw[(UK k h.out h.sz).old c hc,h.kw c hc hn],Nat.le_trans h.sz k.size,hb,h.n0⟩
end
theorem zhM(R:zy):(zt R.qi.bytes).length=(put R.qi.bytes.length).length+R.qi.bytes.length:=by unfold zt;rw[length_append]
theorem zpW(R:zy):0<(zt R.qi.bytes).length:=by rw[zhM];have:=List.length_pos_iff.2 (zfS R);omega
theorem zpX(R:zy)(h:R.qi.bytes.length<=100):(zt R.qi.bytes).length<=105:=by rw[zhM];have:=kK (v:=R.qi.bytes.length) (by omega);omega
def zDK(Bx:Nat->Prop)(w0 w:World)(t want:Value)(es fs:List Ent)(n k:Nat)(out i:Value)(wr:World):Prop:=∃(j b o m c:Nat),j+k=n/\i = .int .i64 j/\out = .slice (some ⟨b,o,none⟩) m c/\AI Bx w0 w wr t want es fs (.slice (some ⟨b,o,none⟩) m c) (put n++qY ((fs.map (·.1)).take j))
theorem zpN{w:World}{x:Nat×Nat×Nat}{es:List Ent}(h:zw prog w x 86 (cellsOf es)){j:Nat}{R:zy}{b a:Option Addr}{d c c1 e:Nat}(f:es[j]?=some (R,.slice b d c1,.slice a c e)):recAt w x.1 (x.2.1+j*14) R b a d c c1 e:=by
 have key:∀i v,i<14->(ZB (R,Value.slice b d c1,Value.slice a c e))[i]?=some v->w.cell? ⟨x.1,x.2.1+j*14+i,none⟩=some v:=fun i v hi hv=>by
  have:=TR.cell_of_row h (j:=14*j+i) (v:=v) (by rw[zan es j i f hi];exact hv);rwa[show x.2.1+(14*j+i)=x.2.1+j*14+i by omega]at this
 exact⟨key 0 _ (by decide) rfl,key 1 _ (by decide) rfl,key 2 _ (by decide) rfl,key 3 _ (by decide) rfl,key 4 _ (by decide) rfl,key 5 _ (by decide) rfl,key 6 _ (by decide) rfl,key 7 _ (by decide) rfl,key 8 _ (by decide) rfl,key 9 _ (by decide) rfl,key 10 _ (by decide) rfl,key 11 _ (by decide) rfl,key 12 _ (by decide) rfl,key 13 _ (by decide) rfl⟩
theorem zoy{w:World}{R:zy}{f d:Option Addr}{i h c1 j:Nat}(hR:RH.Acc R)(h1:AtS w (.slice f i c1) R.up)(h2:AtS w (.slice d h j) R.down):Calls prog 28 #[zbn R f d i h c1 j] w (zxF w R.qi.bytes):=by
 refine(zdI R hR.plain h1 h2).mono fun e w2 k=>?_;obtain⟨g,u,l,rfl,hn⟩:=k;obtain⟨b,o,c,rfl,hi,_,a⟩:=zf8 hn (zj8 R);exact⟨b,o,c,rfl,g,hi,a⟩
theorem zb1(w:World){ops:Array Oper}{rest:List Oper}{o:Oper}{a:Act}{Q:Exit->Act->World->Prop}(s x:Operand){b off j:Nat}{B:Nat}{l M:List Nat}{n:Nat}(hn:M.length=n)
  (hg:o.guard=none) (hop:o.op=Op.call { callee:=Callee.builtin Builtin.append,args:=#[s,x],argTypes:=#[51,51] }) (hrows:qO B w (a.eval s) l) (few:l.length+n<=100000) (hM:0<n) (hB:B<=w.heap.size)
  (hx:a.eval x = .slice (some ⟨b,off,none⟩) n j) (hc0:∀i y,M[i]?=some y->w.cell? ⟨b,off+i,none⟩=some (.int .u8 (y:Nat)))
  (hK:∀g o2 c w',qO B w' (.slice (some ⟨g,o2,none⟩) (l.length+n) c) (l++M)->Y1 (a.eval s) w w'->wpList prog ops Q rest (a.put o.dst (.slice (some ⟨g,o2,none⟩) (l.length+n) c)) w') :
  wpList prog ops Q (o::rest) a w:=by
 subst hn;have d:M≠[]:=List.length_pos_iff.1 hM;refine zfu w s x hg hop hrows few d hB hx hc0 fun q c w' f k2=>?_;obtain⟨y,e,_⟩:=f.2 (fun h=>d (List.append_eq_nil_iff.1 h).2);have hq:some q=some (⟨y.1,y.2.1,none⟩:Addr):=by injection e
 obtain rfl:=Option.some.inj hq;exact hK _ _ _ _ f k2
theorem zw2{f:Nat->Nat}{cs:List Value}(a:cs=zF 32 f):(Tryz.prog.info? 28).map (·.size)=some cs.length:=by
 subst a;have k:(Tryz.prog.info? 28).map (·.size)=some 32:=by kernel_rfl
 rw[k,KT.kH]
theorem zjy{w:World}{cs:List Value}{ops:Array Oper}{rest:List Oper}{o:Oper}{a:Act}{Q:Exit->Act->World->Prop}(x y:Operand)(z:Array Value){f:Nat->Nat}(m:o.guard=none)(l:o.op = .store 28 x y)(d:cs=zF 32 f)
  (hx:a.eval x = .pointer (some ⟨w.heap.size,0,none⟩)) (hy:a.eval y = .agg cs.toArray) (hz:z.size=32)
  (hK:∀w',w'.rangeAt w.heap.size 0 cs->Grown w w'->wpList prog ops Q rest (a.put o.dst undef) w'):wpList prog ops Q (o::rest) a (w.alloc (.cells z 28)):=by
 have hl:cs.length=32:=by rw[d,KT.kH]
 have e:w.heap.size<(w.alloc (.cells z 28)).heap.size:=by unfold World.alloc;simp
 have b:(w.alloc (.cells z 28)).heap[w.heap.size]?=some (.cells z 28 (0,0)):=heap_alloc_new w _;refine wpList_store_mid m 28 x y l w.heap.size 0 cs.toArray hx hy (fun j g=>⟨?_,?_⟩) (by rw[List.size_toArray];exact zw2 d) (all_oneCell_toArray fun v hv=>?_) (hK _ ?_ ?_)
 .unfold World.cell?;rw[b];rw[List.size_toArray,hl]at g;show(z[0+j]?).isSome=true;rw[Array.getElem?_eq_getElem (by omega)];rfl
 .unfold World.frozen?;rw[b];show(decide (0<=0+j)&&decide (0+j<0))=false;simp
 .rw[d]at hv;unfold zF at hv;obtain⟨i,_,rfl⟩:=List.mem_map.1 hv;rfl
 .obtain⟨k,g1,p,n,_⟩:=ky w.heap.size cs.toArray.toList 0 (w.alloc (.cells z 28)) z 28 (0,0) b (by rw[List.toList_toArray,hl];omega);intro j v g;have e:=(List.getElem?_eq_some_iff.1 g).1;unfold World.cell?;rw[show((w.alloc (.cells z 28)).setCells w.heap.size 0 cs.toArray.toList).heap[w.heap.size]?=_ from g1];exact(n j (by rw[List.toList_toArray];exact e)).trans g
 .have h:=zE w (.cells z 28);exact⟨fun c hc=>by rw[heap_setCells_other _ _ _ _ (by omega) (by omega)];exact h.old c hc,by rw[kR];exact h.size,by rw[kQ];rfl,by rw[os_setCells];rfl,by rw[output_setCells];rfl⟩
def zBj(Bx:Nat->Prop)(w0 w:World)(t want:Value)(es fs:List Ent)(e:Ending)(w2:World):Prop:=∃b o n c,e = .returned (.slice (some ⟨b,o,none⟩) n c)/\n=(kc (es.map (·.1))).length/\In w2 (some ⟨b,o,none⟩) (kc (es.map (·.1)))/\St Bx w0 w2 t want es fs/\Vu want w w2/\w.heap.size<=w2.heap.size/\w.heap.size<=b
theorem zpJ{Bx:Nat->Prop}{w0 w wr:World}{t:Value}{q:Option Addr}{a:Nat}{es fs:List Ent}{v:Value}{L:List Nat}{cs:List Value}(h:Z6 w0)(H:AI Bx w0 w wr t (.slice q fs.length a) es fs v L)(few:es.length<=8)(d:cs=zF 32 (qN (fs.map (·.1)))) :
  Calls prog 9 #[.slice q fs.length a] wr fun e w2=>e = .returned (.agg cs.toArray)/\AI Bx w0 w w2 t (.slice q fs.length a) es fs v L:=by
 refine Calls.mono (RH.Jl H.st.rows H.st.lists H.st.acc (by rw[zcg H.st];exact few) rfl (h.Z4 (qy.qt H.st.g)) (zs7 H.st _ (Nat.le_refl _))) fun e w2 hq=>?_;obtain⟨k,kw,b,rfl⟩:=hq;refine⟨by rw[d,take_of_length_le (by rw[length_map];exact Nat.le_refl _)],H.st.want k kw b,fun c hc hn=>by rw[kw c (Nat.lt_of_lt_of_le hc H.sz) hn,H.kw c hc hn],Nat.le_trans H.sz k.size,⟨H.out.1,fun hn=>?_⟩,H.n0⟩;obtain⟨x,e,hx,f⟩:=H.out.2 hn;refine⟨x,e,@zw.heap unk0 _ _ _ _ _ _ hx ?_,f⟩;obtain⟨arr,fz,h1,_⟩:=hx;exact k.old _ _ _ _ h1 (by decide) (by decide) (by decide) (by decide)
theorem zrp{w:World}{b:Nat}{cs:List Value}{Rs:List zy}(h:w.rangeAt b 0 cs)(a:cs=zF 32 (qN Rs)):∀i y,(jZ Rs)[i]?=some y->w.cell? ⟨b,0+i,none⟩=some (.int .u8 (y:Nat)):=Ug (ziD h a)
theorem zvp{Bx:Nat->Prop}{w0 w wr w2:World}{t want v:Value}{es fs:List Ent}{L M:List Nat}{b o n c j:Nat}(H:AI Bx w0 w wr t want es fs v L)(hb:qO w.heap.size w2 (.slice (some ⟨b,o,none⟩) (L.length+n) c) (L++M))(k:Y1 v wr w2)(hn:M.length=n)(l:j=fs.length)(i:L=put fs.length++qY ((fs.map (·.1)).take j))(g:M=jZ (fs.map (·.1)))(f:0<n) :
  zBj Bx w0 w t want es fs (.returned (.slice (some ⟨b,o,none⟩) (L.length+n) c)) w2:=by
 have e:L++M=kc (es.map (·.1)):=by
  rw[i,g,l,take_of_length_le (by rw[length_map];exact Nat.le_refl _)];unfold kc;rw[<- H.st.same,length_map,List.append_assoc]
 have d:∀y∈L++M,y<256:=by rw[i,g];exact zsl _ _ _
 have a:L++M≠[]:=fun h=>by have:=(List.append_eq_nil_iff.1 h).2;rw[this]at hn;simp at hn;omega
 obtain⟨x,p,hx,m⟩:=hb.2 a;have h2:=H.wrote k hb;refine⟨b,o,_,c,rfl,by rw[<- e,length_append,hn],by rw[<- e];exact XD hb d,h2.st,h2.kw,h2.sz,?_⟩;have hq:some (⟨b,o,none⟩:Addr)=some ⟨x.1,x.2.1,none⟩:=by injection p
 have hq:=Option.some.inj hq;injection hq with h1;rw[h1];exact m
theorem zvo{Bx:Nat->Prop}{w0 w:World}{t:Value}{q:Option Addr}{cq:Nat}{es fs:List Ent}(TK0:Z6 w0)(H0:St Bx w0 w t (.slice q fs.length cq) es fs)(few:es.length<=8):Calls prog 17 #[.slice q fs.length cq] w (zBj Bx w0 w t (.slice q fs.length cq) es fs):=by
 have TK:=hid TK0;have H:=hid H0;have FEW:=hid few;have FEWf:RowKit.Hid (fs.length<=8):=hid (by have:=zcg H0;omega);have hw64:IntKind.u64.wrap (fs.length:Int)=(fs.length:Int):=u64_in _ (by have:=FEWf.out;omega);have ACC:RowKit.Hid (∀R∈fs.map (·.1),RH.Acc R):=hid (fun R hR=>by obtain⟨e,he,rfl⟩:=List.mem_map.1 hR;exact H0.acc e he);clear TK0 H0 few;go_enter func17,ntmps17
 go_wp2_with(go_at_call 46;(with_reducible refine(zmb (by have:=FEWf.out;omega)).mono ?_);rintro e w1 ⟨b1,o1,c1,rfl,g1,k1⟩;have G1:=hid g1;have K1:=hid k1;clear g1 k1)
 .go_loopg [3,13] fs.length (fun k out i wr=>zDK Bx w0 w t (.slice q fs.length cq) es fs fs.length k out i wr)
  case atStart=>
   refine⟨0,_,_,_,_,by omega,rfl,rfl,H.out.grown G1.out,fun c hc _=>G1.out.old c hc,G1.out.size,?_,H.out.g.size⟩;show qO _ _ _ (put fs.length++[]);rw[append_nil];exact K1.out
  case round=>
   obtain⟨j,b3,o3,m3,c3,hj,rfl,rfl,hA⟩:=hrel;have A3:=hid hA;clear hA
   have LEN:RowKit.Hid ((put fs.length++qY ((fs.map (·.1)).take j)).length<=90000):=hid (by
    have h2:=Ky (Rs:=(fs.map (·.1)).take j) fun x hx=>ACC.out x (mem_of_mem_take hx);have h3:=kK (v:=fs.length) (by have:=FEWf.out;omega);rw[length_take,length_map]at h2;rw[length_append];have:=FEWf.out
    omega)
   cases gk with
   | zero=>
    have hjm:¬((j:Int)<(fs.length:Int)):=by omega
    have hjl:RowKit.Hid (j=fs.length):=hid (by omega);obtain⟨cs,hcs⟩:∃cs,cs=zF 32 (qN (fs.map (·.1))):=⟨_,rfl⟩
    have HCS:=hid hcs;clear hcs;obtain⟨L,hL⟩:∃L,L=put fs.length++qY ((fs.map (·.1)).take j):=⟨_,rfl⟩
    rw[<- hL]at A3 LEN;have HL:=hid hL;clear hL
    go_wp2_with(first
     | (go_at_call 9;(with_reducible refine(zpJ TK.out A3.out FEW.out HCS.out).mono ?_);rintro e w6 ⟨rfl,k1⟩;have A6:=hid k1;clear k1)
     | (refine zjy _ _ _ rfl rfl HCS.out rfl rfl rfl ?_;intro w7 k1 k2;have C7:=hid (zrp k1 HCS.out);have A7:=hid (A6.out.grown k2);clear k1 k2)
     | (at_builtin;refine zb1 _ _ _ (ZO (fs.map (·.1))) rfl rfl A7.out.out (by have:=LEN.out;omega) (by decide) A7.out.sz rfl C7.out ?_;intro b8 o8 c8 w8 k1 k2;have K8:=hid k1;have W8:=hid k2;clear k1 k2))
    go_ret
    exact zvp A7.out K8.out W8.out (ZO _) hjl.out HL.out rfl (by decide)
   | succ k=>
    have hjm:(j:Int)<(fs.length:Int):=by omega
    obtain⟨y,e,hy⟩:=A3.out.st.rows.2 (by intro h;rw[h]at hjm;simp at hjm;omega);have hq:q=some ⟨y.1,y.2.1,none⟩:=by cases e;rfl
    clear e;subst hq;obtain⟨R,p1,p2,n1,n2,c1,c2,he,hu,hd'⟩:=zrI (A3.out.st.lists) (j:=j) (by omega);obtain⟨d0,d1,d2,d3,d4,d5,d6,d7,d8,d9,d10,d11,d12,d13⟩:=zpN hy he;have HU:=hid hu;have HDn:=hid hd';have NTH:RowKit.Hid ((fs.map (·.1))[j]?=some R):=hid (by rw[List.getElem?_map,he];rfl);have HACC:=hid (ACC.out R (List.mem_of_getElem? NTH.out));have RL:RowKit.Hid (R.qi.bytes.length<=100):=hid (by have hR:=HACC.out;have:=Qs hR.ok hR.good hR.day;omega);clear he hu hd' hy
    go_wp2_with(first
     | (go_at_call 28;(with_reducible refine(zoy HACC.out ((qy.qt (zE _ _)).atS HU.out) ((qy.qt (zE _ _)).atS HDn.out)).mono ?_);rintro e w4 ⟨b4,o4,c4,rfl,k1,k2,k3⟩;have G4:=hid ((zE _ _).trans' k1);have I4:=hid k2;clear k1 k2 k3)
     | (go_at_call 47;(with_reducible refine(zpU I4.out (zfS R) (by have:=RL.out;omega)).mono ?_);rintro e w5 ⟨b5,o5,c5,rfl,k1,k2,k3⟩;have A5:=hid (A3.out.grown (G4.out.trans' k1));have I5:=hid (Ug k2);clear k1 k2 k3)
     | (at_builtin;refine zb1 _ _ _ rfl rfl rfl A5.out.out (by have:=LEN.out;have:=RL.out;have:=zpX R RL.out;omega) (zpW R) A5.out.sz rfl I5.out ?_;intro b6 o6 c6 w6 k1 k2;have K6:=hid k1;have W6:=hid k2;clear k1 k2))
    go_roundg k
    case measure=>omega
    case rel=>exact⟨j+1,_,_,_,_,by omega,(by rw[show RowKit.wrap64 ((j:Int)+1)=(j:Int)+1 by unfold RowKit.wrap64;have:=FEWf.out;omega];rfl),rfl,A5.out.wrote W6.out (by rw[zeD NTH.out,<- List.append_assoc];have h6:=K6.out;rw[length_append]at h6;exact h6)⟩
end RD
end
section
open Go Go.Proofs TR
namespace RD
theorem znb(w:World){ops:Array Oper}{rest:List Oper}{o:Oper}{a:Act}{Q:Exit->Act->World->Prop}(s x:Operand){L:List Nat}{b c off:Nat}{C:Option Addr}
  (hg:o.guard=none) (hop:o.op=Op.call { callee:=Callee.builtin Builtin.append,args:=#[s,x],argTypes:=#[51,51] }) (hs:a.eval s = .slice C 0 0) (hne:L≠[]) (hlen:L.length<=100000)
  (hx:a.eval x = .slice (some ⟨b,off,none⟩) L.length c) (hb:∀i y,L[i]?=some y->w.cell? ⟨b,off+i,none⟩=some (.int .u8 (y:Nat)))
  (hK:∀B A w',qO w.heap.size w' (.slice (some ⟨B,0,none⟩) L.length A) L->Grown w w'->wpList prog ops Q rest (a.put o.dst (.slice (some ⟨B,0,none⟩) L.length A)) w') :
  wpList prog ops Q (o::rest) a w:=by
 obtain⟨i,hi⟩:∃i,Tryz.prog.info? 5=some i:=Option.isSome_iff_exists.1 (by kernel_rfl);have f:(Tryz.prog.info? 5).map (·.size)=some 1:=by kernel_rfl
 have k2:(Tryz.prog.info? 5).map (fun i=>Nat.ble i.bytes 1000)=some true:=by kernel_rfl
 have k3:((Tryz.prog.info? 5).bind (·.zero)).map (fun z=>z.cells.size)=some 1:=by kernel_rfl
 rw[hi]at f k2 k3;have f:i.size=1:=Option.some.inj f;have k2:i.bytes<=1000:=Nat.ble_eq.mp (Option.some.inj k2);obtain⟨z,l,k⟩:=Option.map_eq_some_iff.1 k3;have l:i.zero=some z:=l;have v:0<L.length:=List.length_pos_iff.2 hne;have n:(0+L.length)*i.bytes<=140737488355328:=Nat.le_trans (Nat.mul_le_mul (show 0+L.length<=100000 by omega) k2) (by decide);have p:0+L.length<=maxLen:=by unfold maxLen;omega
 refine wpList_append_grows w hg s x 51 hop 5 i z 1 i.bytes under51 hi l f rfl k (by decide) C 0 0 [] hs (fun _=>⟨rfl,rfl⟩) rfl (fun b _ j u e=>by cases e) _ L.length c (qM L) hx (by unfold qM;simp) (fun j u e=>?_) (fun u t=>?_) (by omega) p n fun H w' G d=>?_
 .unfold qM at e;rw[List.getElem?_map]at e;obtain⟨y,D,rfl⟩:=Option.map_eq_some_iff.1 e;rw[Addr.add_lit];exact hb j y D
 .unfold qM at t;obtain⟨y,_,rfl⟩:=List.mem_map.1 t;rfl
 .obtain⟨_,⟨_,J⟩|⟨g,cap,cur,rfl,h1,h2,h3,_,I,r⟩⟩:=G
  .omega
  .have m:Grown w w':=⟨fun c hc=>d.block c hc (by simp),d.size,d.tape,d.os,d.output⟩
   have r:List.take ((0+L.length)*1) cur.toList=qM L:=r;have:=hK g cap w' ⟨fun h=>absurd h hne,fun _=>⟨(g,0,cap-L.length),?_,⟨cur,(0,0),h2,?_,fun i _ h=>by omega,Nat.dvd_zero _,fun j e=>?_⟩,h1⟩⟩ m
   .rw[show 0+L.length=L.length by omega];exact this
   .rw[show L.length+(cap-L.length)=cap by omega]
   .rw[jt,Vk];show 0+L.length+(cap-L.length)*1<=cur.size;omega
   .rw[jt]at e;rw[<- r,getElem?_take,if_pos (by omega),Array.getElem?_toList,Nat.zero_add]
def zxL(w:World)(L:List Nat)(e:Ending)(w2:World):Prop:=∃b c,e = .returned (.slice (some ⟨b,0,none⟩) L.length c)/\Grown w w2/\qO w.heap.size w2 (.slice (some ⟨b,0,none⟩) L.length c) L
theorem zi5{B a:Nat}{w:World}{v:Value}{L:List Nat}(h:qO B w v L)(hb:a<=B):qO a w v L:=
 ⟨h.1,fun hn=>by obtain⟨x,e,hx,b⟩:=h.2 hn;exact⟨x,e,hx,Nat.le_trans hb b⟩⟩
theorem zr0{w:World}{b o c:Nat}{L:List Nat}(hL:In w (some ⟨b,o,none⟩) L)(hne:L≠[])(hlen:L.length<=100000):Calls prog 18 #[.slice (some ⟨b,o,none⟩) L.length c] w (zxL w L):=by
 have HL:=hid hL;have HN:=hid hne;have HE:=hid hlen;clear hL hne hlen;have hnil:=nil_eq;go_enter func18,ntmps18
 go_wp2_with(at_builtin;refine znb _ _ _ rfl rfl rfl HN.out HE.out rfl (zbe HL.out HN.out _) ?_;intro b2 c' w' h1 h2;have H1:=hid h1;have H2:=hid h2;clear h1 h2)
 go_ret
 exact⟨b2,c',rfl,(zE w _).trans' H2.out,zi5 H1.out (zE w _).size⟩
theorem zCR(w:World):∀i y,[0][i]?=some y->(w.alloc (.cells #[.int .u8 0] 5)).cell? ⟨w.heap.size,0+i,none⟩=some (.int .u8 (y:Nat)):=by
 intro i y hi
 match i with
 | 0=>
  cases hi;unfold World.cell?;rw[show(w.alloc (.cells #[.int .u8 0] 5)).heap[w.heap.size]?=some (.cells #[.int .u8 0] 5 (0,0)) from heap_alloc_new w _]
  rfl
 | i+1=>cases hi
end RD
end
end Go.AEv
