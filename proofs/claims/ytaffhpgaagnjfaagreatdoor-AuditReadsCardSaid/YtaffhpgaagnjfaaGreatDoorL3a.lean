/- Trails: L3a. Conditions: each theorem's. -/
import Derived.Test.YtaffhpgaagnjfaaGreatDoorH2x0
import Derived.ProofKit
import Derived.Deep.Slices
import Derived.Lib.LazyBuf
import Derived.Laws.IdiomStrings
set_option linter.all false
open List Nat Go.World Go.Proofs.Tryz UInt8 Go.IntWalk
open Go.Proofs
set_option maxRecDepth 100000
set_option maxHeartbeats 4000000
namespace Go.AEv
variable{L' l:Eb}{b c g j m n u v x:Nat}{e er:Int}{p:Ed}{t:Eg}{w w2 y:Ea}
open Go
open Go.AuditPlain(hi qs zm zT numbers zig)
open RD(num)
section
open TR
def WQ(w0:Ea)(e:Ew)(w2:Ea):Prop:=∃(a:Addr) (q:Ed) (c:Nat) (es fs:List Ent),fs.length<=8/\fs.length<=c/\e = .returned (.tuple #[.pointer (some a),.slice q fs.length c])/\St (own w0) w0 w2 (.pointer (some a)) (.slice q fs.length c) es fs
def zbW{e:Ew}(h:RG w e w2):WQ w e w2:=by
 obtain⟨t,want,es,b,rfl,H,hl⟩:=h;obtain⟨⟨x,hd,r,rfl,_⟩,_⟩:=id H.tr;by_cases a:b=[]
 .obtain rfl:=H.rows.1 a;subst a;exact⟨_,none,0,es,[],hl,Lh _,rfl,H⟩
 .obtain⟨y,rfl,_⟩:=H.rows.2 a;exact⟨_,_,_,es,b,hl,Al _ _,rfl,H⟩
def pU(w0:Ea)(v:Ei):Prop:=v = .slice none 0 0\/∃(p:Addr) (n c:Nat),v = .slice (some p) n c/\n<=c/\∀j,j<n->∃x,RX w0 p j x
def Sc{u:Ea}{v:Ei}(a:Grown u w)(d:kG u)(e:WO u)(hv:pU u v):Calls prog 7 #[v,.slice none 0 0] w (WQ u):=by
 rcases hv with rfl|⟨p,n,c,rfl,b,hit⟩
 .exact(DO u w a a.size d).mono λ_ _ h=>zbW h
 .exact(ve p n c (min n 8) u w a a.size I I I b d e hit).mono λ_ _ h=>zbW h
end
end Go.AEv
namespace Go.Proofs.YtaffhpgaagnjfaaGreatDoor
open Go.ChangeShapes Go.WideShapes Go.ChangeAt Go.RowKit
open Go.AEv (tabs WO Sl4 J2)
def c5:Tryz.prog.cellsOf 5=1:=U
def c3:Tryz.prog.cellsOf 3=1:=U
def c4:Tryz.prog.cellsOf 4=1:=U
def zh8:Tryz.prog.cellsOf 106=1:=U
def yg{l:Ec}{j:Nat}{v:Ei}(h:(l.drop j).take 1=[v]):l[j]?=some v:=by
 have:=congrArg (λm=>m[0]?) h;simpa using this
def u8_nat{n:Int}(w:(Lit.int .u8 n).wf=true):∃m:Nat,n=m/\m<256:=by
 have h1:IntKind.u8.min=0:=rfl;have h2:IntKind.u8.max=255:=rfl;simp only[Lit.wf,Le,Lk,h1,h2]at w;exact⟨n.toNat,I,I⟩
def xE{p:Nat->Nat->Prop}{n:Nat}(h:∀i,i<n->∃b,p i b):∃B:Nat->Nat,∀i,i<n->p i (B i):=by
 exact⟨λi=>if hi:i<n then(h i hi).choose else 0,λi hi=>by show p i (if hi:i<n then(h i hi).choose else 0);rw[dif_pos hi];exact(h i hi).choose_spec⟩
section
variable{H:Type}{enc:TypeId×Value->H}{W:Ea}
def Cu{n:Nat}{cs:Ec}{x:DataW H×List MemPlace}{t:Eg}(u:Tryz.prog.underlying t=some (.slice 5))(h:DataW.trod enc prog W 0 (λ_=>true) true n t cs=some x):∃s:Sl4,s.Ok/\s.In W/\cs=[s.val]:=by
 rcases Go.Deep.open_slice1 u c5 h with⟨rfl,_⟩|⟨a,len,cap,m,k,V,D,v,rfl,_,hle,_,hm,_,hx⟩
 .refine⟨⟨none,0,0,[]⟩,⟨rfl,Lh _,(λb hb=>Ld hb (by intro h;cases h)),λh=>Ld rfl h⟩,(λb o hb _=>Ld hb (by intro h;cases h)),rfl⟩
 .have hm:m=cap:=hm;subst hm
  have g:∀i,i<m->∃b:Nat,W.cell? (a.add i)=some (.int .u8 (b:Nat))/\b<256:=by
   intro i hi;obtain⟨h1,h2⟩:=hx i hi;obtain⟨z,e,_,wz⟩:=DataW.trod_int underlying5 h2;obtain⟨b,rfl,hb⟩:=u8_nat wz;refine⟨b,?_,hb⟩;rw[h1];exact congrArg some (List.singleton_inj.1 e)
  obtain⟨B,g⟩:=xE g
  have c:∀i x,((List.range (min len 4)).map B)[i]?=some x->i<len/\x=B i:=by
   intro i x hx;rw[Lw]at hx;obtain⟨j,r,rfl⟩:=LU.1 hx;have hi:=(LL.1 r).1;rw[As]at hi;rw[Ah hi]at r;cases r;exact⟨I,rfl⟩
  have d:0<len->a.spot=none:=by
   intro l;obtain⟨h1,_⟩:=g 0 I
   have h1:W.cell? a=some (.int .u8 (B 0:Nat)):=by
    have e:a.add 0=a:=by unfold Addr.add;simp
    rwa[e]at h1
   unfold World.cell? at h1;split at h1
   .split at h1
    .cases h1
    .rename_i hs
     cases ha:a.spot with
     | none=>rfl
     | some z=>rw[ha]at hs;exact Ld rfl hs
   .cases h1
  refine⟨⟨some a,len,m,(List.range (min len 4)).map B⟩,⟨Oc,hle,?_,?_⟩,?_,rfl⟩
  .intro b hb;obtain⟨i,hi⟩:=List.getElem?_of_mem hb;obtain⟨h1,rfl⟩:=c i b hi;exact(g i I).2
  .intro f
   have l:0<len:=by
    rcases eq_zero_or_pos len with h|h
    .subst h;exact Ld rfl f
    .exact h
   refine⟨a.block,a.off,?_⟩;show some a=_;rw[<- d l]
  .intro b o hb f;have hb:some a=some ⟨b,o,none⟩:=hb;cases hb
   have l:0<len:=by
    rcases eq_zero_or_pos len with h|h
    .subst h;exact Ld rfl f
    .exact h
   have key:∀i,i<len->W.cell? ⟨b,o+i,none⟩=some (.int .u8 (B i:Nat)):=by
    intro i hi;have h1:=(g i I).1;have e:Addr.add ⟨b,o,none⟩ i=⟨b,o+i,none⟩:=by unfold Addr.add;by_cases h:i=0<;>simp[h]
    rwa[e]at h1
   have p:=key 0 l;unfold World.cell? at p;split at p
   .rename_i arr t fz hh;refine⟨arr,t,fz,hh,λi x hx=>?_⟩;obtain⟨h1,rfl⟩:=c i x hx;have:=key i h1;unfold World.cell? at this;rw[hh]at this;exact this
   .cases p
def Jk{n:Nat}{cs:Ec}{x:DataW H×List MemPlace}(h:DataW.trod enc prog W 0 (λ_=>true) true n 5 (cs.take (Tryz.prog.cellsOf 5))=some x):∃b:Nat,b<256/\cs.take 1=[.int .u8 (b:Nat)]:=by
 rw[c5]at h;obtain⟨z,e,_,wz⟩:=DataW.trod_int underlying5 h;obtain⟨b,rfl,hb⟩:=u8_nat wz;exact⟨b,hb,e⟩
def nX{n:Nat}{cs:Ec}{x:DataW H×List MemPlace}(h:DataW.trod enc prog W 0 (λ_=>true) true n 4 (cs.take (Tryz.prog.cellsOf 4))=some x):∃b:Bool,cs.take 1=[.bool b]:=by
 rw[c4]at h;obtain⟨b,e,_⟩:=DataW.trod_bool underlying4 h;exact⟨b,e⟩
def QT{l:Ec}{i j n:Nat}{v:Ei}(a:j<n)(h:(((l.drop i).take n).drop j).take 1=[v]):l[i+j]?=some v:=by
 have:=yg h;rw[getElem?_take,Y a,getElem?_drop]at this;exact this
def vZ{fuel:Nat}{cs:Eh}{x:DataW H×List MemPlace}(hf:DataW.trod enc prog W 0 (λ_=>true) true fuel 80 cs.toList=some x) :
  ∃x:J2,(∀m,1<=m->m<=8->J2.Ok { x with num:=m })/\x.u.In W/\x.d.In W/\cs.toList=x.yX:=by
 obtain⟨xs,n,_,_,hlen,hx,a⟩:=DataW.trod_struct underlying80 hf;have k80:Tryz.prog.cellsOf 80=14:=U;have k76:Tryz.prog.cellsOf 76=3:=U;have k78:Tryz.prog.cellsOf 78=5:=U;rw[k80]at hlen;have hx8:xs.length=8:=hx;have at_:∀i,i<8->∃y,xs[i]?=some y:=λi hi=>⟨_,Ly I⟩
 obtain⟨y0,z0⟩:=at_ 0 C;obtain⟨y1,z1⟩:=at_ 1 C;obtain⟨y2,z2⟩:=at_ 2 C;obtain⟨y3,z3⟩:=at_ 3 C;obtain⟨y4,z4⟩:=at_ 4 C;obtain⟨y5,z5⟩:=at_ 5 C;obtain⟨y6,z6⟩:=at_ 6 C;obtain⟨y7,z7⟩:=at_ 7 C;obtain⟨a0,b0,e0⟩:=Jk ((a 0 _ rfl).trans z0);obtain⟨a1,b1,e1⟩:=Jk ((a 1 _ rfl).trans z1);obtain⟨a2,b2,e2⟩:=Jk ((a 2 _ rfl).trans z2);obtain⟨a3,b3,e3⟩:=Jk ((a 3 _ rfl).trans z3);obtain⟨a7,e7⟩:=nX ((a 5 _ rfl).trans z5);obtain⟨a8,e8⟩:=nX ((a 6 _ rfl).trans z6);have f4:DataW.trod enc prog W 0 (λ_=>true) true n 76 ((cs.toList.drop 4).take (Tryz.prog.cellsOf 76))=some y4:=(a 4 _ rfl).trans z4;have f7:DataW.trod enc prog W 0 (λ_=>true) true n 78 ((cs.toList.drop 9).take (Tryz.prog.cellsOf 78))=some y7:=(a 7 _ rfl).trans z7;obtain⟨xa,na,rfl,_,_,hxa,g⟩:=DataW.trod_struct underlying76 f4;have hxa3:xa.length=3:=hxa;have h:∀i,i<3->∃y,xa[i]?=some y:=λi hi=>⟨_,Ly I⟩
 obtain⟨ya0,T⟩:=h 0 C;obtain⟨ya1,Q⟩:=h 1 C;obtain⟨ya2,P⟩:=h 2 C;obtain⟨a4,b4,e4⟩:=Jk ((g 0 _ rfl).trans T);obtain⟨a5,b5,e5⟩:=Jk ((g 1 _ rfl).trans Q);obtain⟨a6,b6,e6⟩:=Jk ((g 2 _ rfl).trans P);obtain⟨xc,nc,hnc,_,_,hxc,b⟩:=DataW.trod_struct underlying78 f7;have hxc5:xc.length=5:=hxc;have f:∀i,i<5->∃y,xc[i]?=some y:=λi hi=>⟨_,Ly I⟩
 obtain⟨yc0,z⟩:=f 0 C;obtain⟨yc1,w⟩:=f 1 C;obtain⟨yc2,v⟩:=f 2 C;obtain⟨yc3,t⟩:=f 3 C;obtain⟨yc4,r⟩:=f 4 C;obtain⟨a9,b9,e9⟩:=Jk ((b 0 _ rfl).trans z);obtain⟨a10,b10,p⟩:=Jk ((b 1 _ rfl).trans w);obtain⟨s11,o11,i11,e⟩:=Cu (by first|exact underlying51|rfl) ((b 2 _ rfl).trans v);obtain⟨s12,o12,i12,c⟩:=Cu (by first|exact underlying51|rfl) ((b 3 _ rfl).trans t);obtain⟨a13,l⟩:=nX ((b 4 _ rfl).trans r);have k:Tryz.prog.cellsOf 51=1:=U;rw[k76]at e4 e5 e6;rw[k78]at e9 p e c l;have e:(((cs.toList.drop 9).take 5).drop 2).take 1=[s11.val]:=by first|exact e|(rw[<- k];exact e)
 have c:(((cs.toList.drop 9).take 5).drop 3).take 1=[s12.val]:=by first|exact c|(rw[<- k];exact c)
 refine⟨⟨a0,a1,a2,a3,a4,a5,a6,a7,a8,a9,a10,s11,s12,a13,1⟩,λm h1 h2=>⟨⟨h1,h2⟩,b0,b1,b2,b3,b4,b5,b6,b9,b10,o11,o12⟩,i11,i12,?_⟩;apply AF;intro j
 match j with
 | 0=>exact yg e0
 | 1=>exact yg e1
 | 2=>exact yg e2
 | 3=>exact yg e3
 | 4=>exact QT (i:=4) (j:=0) C e4
 | 5=>exact QT (i:=4) (j:=1) C e5
 | 6=>exact QT (i:=4) (j:=2) C e6
 | 7=>exact yg e7
 | 8=>exact yg e8
 | 9=>exact QT (i:=9) (j:=0) C e9
 | 10=>exact QT (i:=9) (j:=1) C p
 | 11=>exact QT (i:=9) (j:=2) C e
 | 12=>exact QT (i:=9) (j:=3) C c
 | 13=>exact QT (i:=9) (j:=4) C l
 | n+14=>rw[Au I];rfl
def vY{base:Nat}{v:Ei}{d:DataW H}{g:List MemPlace}(hv:Value.okWide prog W .any base 22 v)(h:DataW.Trod enc prog W 0 (λ_=>true) true 22 v d g):Go.AEv.pU W v:=by
 obtain⟨T,len,cap,rfl⟩:=okWide_slice underlying22 hv;obtain⟨fuel,l⟩:=h;have l:DataW.trod enc prog W 0 (λ_=>true) true fuel 22 [.slice T len cap]=some (d,g):=l;have k:Tryz.prog.cellsOf 80=14:=U;rcases Go.Deep.open_slice underlying22 l with⟨f,_⟩|⟨a,t,cap',m,n,D,Pl,f,_,hle,_,hm,_,hx⟩
 .cases f;exact .inl rfl
 .cases f;have hm:m=cap:=hm;subst hm;refine .inr ⟨a,len,m,rfl,hle,λj hj=>?_⟩;obtain⟨r,h1,h2⟩:=hx j I;rw[k]at h1;obtain⟨_,hlen,c⟩:=cells?_some h1;obtain⟨x,Q,u,w,hc⟩:=vZ (cs:=r.toArray) (by rw[AI];exact h2);rw[AI]at hc;subst hc
  have b:(a.add (j*14)).spot=none:=by
   have f:=c 0 I;have e:(a.add (j*14)).add 0=a.add (j*14):=by unfold Addr.add;simp
   rw[e]at f;unfold World.cell? at f;split at f
   .split at f
    .cases f
    .rename_i hs
     cases ha:(a.add (j*14)).spot with
     | none=>rfl
     | some z=>rw[ha]at hs;exact Ld rfl hs
   .cases f
  refine⟨x,Q,u,w,?_⟩;generalize hp:a.add (j*14)=p at c b;obtain⟨P,y,g⟩:=p;have b:g=none:=b;subst b
  have key:∀i v,x.yX[i]?=some v->i<14->W.cell? ⟨P,y+i,none⟩=some v:=by
   intro i v hv hi;have:=c i hi;rw[hv,Addr.add_lit]at this;exact this
  unfold Go.AEv.pV;rw[hp];exact⟨key 0 _ rfl C,key 1 _ rfl C,key 2 _ rfl C,key 3 _ rfl C,key 4 _ rfl C,key 5 _ rfl C,key 6 _ rfl C,key 7 _ rfl C,key 8 _ rfl C,key 9 _ rfl C,key 10 _ rfl C,key 11 _ rfl C,key 12 _ rfl C,key 13 _ rfl C⟩
end
def nj{W:Ea}(h:WO W):Go.AEv.kG W:=by
 letI:=AEv.unk0;obtain⟨a,h1,h3⟩:=h;refine AEv.nk ⟨a,h1,λp hp=>h3 p ?_⟩;simp only[AEv.KP.tabs,Lf,Lq,Lo]at hp;rcases hp with rfl|rfl
 .exact LG
 .exact LP _ LG
end Go.Proofs.YtaffhpgaagnjfaaGreatDoor
namespace Go.AEv
variable{L' l:Eb}{b c g j m n u v x:Nat}{e er:Int}{p:Ed}{t:Eg}{w w2 y:Ea}
open Go
open Go.AuditPlain(hi qs zm zT numbers zig)
open RD(num)
section
open TR
namespace RD
def qe(L:Eb):List Value:=L.map λx=>.int .u8 (x:Nat)
def under51:Tryz.prog.underlying 51=some (.slice 5):=U
def Ih(w:Ea){ops:Ep}{rest:Er}{o:Oper}{a:Act}{Q:Eo}(s x:Ev){L:Eb}{off:Nat}{T:Ed}
  (hg:o.guard=none) (hop:o.op=Op.call { callee:=Callee.builtin Builtin.append,args:=#[s,x],argTypes:=#[51,51] }) (hs:a.eval s = .slice T 0 0) (hL:∀y∈L,y<256) (hne:L≠[]) (hlen:L.length<=100000)
  (hx:a.eval x = .slice (some ⟨b,off,none⟩) L.length c) (hb:∀i y,L[i]?=some y->w.cell? ⟨b,off+i,none⟩=some (.int .u8 (y:Nat)))
  (hK:∀p P w',L.length<=P->In w' (some p) L->w.heap.size<=p.block->Grown w w'->wpList prog ops Q rest (a.put o.dst (.slice (some p) L.length P)) w') :
  wpList prog ops Q (o::rest) a w:=by
 obtain⟨i,hi⟩:∃i,Tryz.prog.info? 5=some i:=LM.1 U;have h:(Tryz.prog.info? 5).map (·.size)=some 1:=U;have k2:(Tryz.prog.info? 5).map (λi=>Nat.ble i.bytes 1000)=some true:=U;have k3:((Tryz.prog.info? 5).bind (·.zero)).map (λz=>z.cells.size)=some 1:=U;rw[hi]at h k2 k3;have h:i.size=1:=Aa h;have k2:i.bytes<=1000:=Nat.ble_eq.mp (Aa k2);obtain⟨z,l,k⟩:=LU.1 k3;have l:i.zero=some z:=l;have H:0<L.length:=AV.2 hne;have n:(0+L.length)*i.bytes<=140737488355328:=Lj (Nat.mul_le_mul (show 0+L.length<=100000 by omega) k2) C;have r:0+L.length<=maxLen:=by unfold maxLen;omega
 refine wpList_append_grows w hg s x 51 hop 5 i z 1 i.bytes under51 hi l h rfl k C T 0 0 [] hs (λ_=>⟨rfl,rfl⟩) rfl (λb _ j u f=>by cases f) _ L.length c (qe L) hx (by unfold qe;simp) (λj u f=>?_) (λu v=>?_) I r n λv' w' ho d=>?_
 .unfold qe at f;rw[Lw]at f;obtain⟨y,hy,rfl⟩:=LU.1 f;rw[Addr.add_lit];exact hb j y hy
 .unfold qe at v;obtain⟨y,_,rfl⟩:=Lv.1 v;rfl
 .obtain⟨_,⟨_,h0⟩|⟨g,cap,cur,rfl,h1,h2,h3,_,h5,t⟩⟩:=ho
  .omega
  .have m:Grown w w':=⟨λc hc=>d.block c hc Oc,d.size,d.tape,d.os,d.output⟩
   have:=hK ⟨g,0,none⟩ cap w' I ⟨hL,λ_=>⟨g,0,rfl,λj y f=>?_⟩⟩ h1 m
   .rw[show 0+L.length=L.length by omega];exact this
   .have hjl:=(LL.1 f).1;have e:(qe L)[j]?=some (.int .u8 (y:Nat)):=by unfold qe;rw[Lw,f];rfl
    have t:List.take ((0+L.length)*1) cur.toList=qe L:=t;rw[<- t,getElem?_take,Y I,LV]at e;unfold World.cell?;rw[h2,Lz];exact e
def dU(w:Ea)(L:Eb)(e:Ew)(w2:Ea):Prop:=∃p c,e = .returned (.slice p L.length c)/\Grown w w2/\L.length<=c/\In w2 p L/\(∀a,p=some a->w.heap.size<=a.block)/\∀a,p=some a->a.block<w2.heap.size
def zeU(w:Ea)(L:Eb)(e:Ew)(w2:Ea):Prop:=∃p c,e = .returned (.slice p L.length c)/\Grown w w2/\L.length<=c/\In w2 p L/\∀a,p=some a->w.heap.size<=a.block
def xK{a:Addr}{v:Ei}{o:Obj}(h:w.cell? a=some v):(w.alloc o).cell? a=some v:=by
 rw[cell?_alloc_lt _ _ _ (block_lt_of_cell? w a h)];exact h
def cL{o:Nat}{L:Eb}(h:In w (some ⟨b,o,none⟩) L)(a:L≠[])(c:Obj):∀i y,L[i]?=some y->(w.alloc c).cell? ⟨b,o+i,none⟩=some (.int .u8 (y:Nat)):=by
 obtain⟨b',d,e,h⟩:=h.2 a;cases e;exact λi y hi=>xK (h i y hi)
def tM{p:Addr}{L:Eb}(h:In w (some p) L)(hn:L≠[]):p.block<w.heap.size:=by
 obtain⟨b,o,e,hc⟩:=h.2 hn;cases e;obtain⟨x,l,rfl⟩:=exists_cons_of_ne_nil hn;exact block_lt_of_cell? w _ (hc 0 x rfl)
def nil_eq(w:Ea)(a:Ed)(l c:Nat):(binOp BinOp.eql 51 (.slice a l c) (.slice none 0 0)).run prog w = .ok (.bool a.isNone) w:=run_eql_slice_nil w 51 5 a l c under51
def xD(w:Ea)(b o c:Nat)(L:Eb)(hL:In w (some ⟨b,o,none⟩) L)(hne:L≠[])(hlen:L.length<=100000):Calls prog 18 #[.slice (some ⟨b,o,none⟩) L.length c] w (dU w L):=by
 have HL:=A hL;have HN:=A hne;have HE:=A hlen;clear hL hne hlen;have hnil:=nil_eq;go_enter func18,ntmps18;go_wp2_with(at_builtin;refine Ih _ _ _ rfl rfl rfl HL.o.1 HN.o HE.o rfl (cL HL.o HN.o _) ?_;intro p c' w' h1 h2 h3 h4;have H1:=A h1;have H2:=A h2;have H3:=A h3;have H4:=A h4;clear h1 h2 h3 h4)
 go_ret
 exact⟨some p,c',rfl,(zc w _).trans' H4.o,H1.o,H2.o,(λa ha=>by cases ha;exact Lj (zc w _).size H3.o),λa ha=>(by cases ha;exact tM H2.o HN.o)⟩
def Yu(w:Ea)(p:Ed):In w p []:=⟨λb hb=>(by cases hb),λh=>Ld rfl h⟩
def GU(w:Ea)(c:Nat):Calls prog 18 #[.slice none 0 c] w (dU w []):=by
 have hnil:=nil_eq;go_enter func18,ntmps18;go_wp2
 go_ret
 exact⟨none,0,rfl,⟨λ_ _=>rfl,Lh _,rfl,rfl,rfl⟩,Lh _,Yu _ _,λa ha=>(by cases ha),λa ha=>(by cases ha)⟩
def uq(w:Ea)(a:Addr)(c:Nat):Calls prog 18 #[.slice (some a) 0 c] w (dU w []):=by
 have hnil:=nil_eq;go_enter func18,ntmps18;go_wp2
 go_ret
 exact⟨some _,0,rfl,zc w _,Lh _,Yu _ _,(λa ha=>by cases ha;exact Lh _),λa ha=>by cases ha;unfold World.alloc;simp⟩
def cM{L:Eb}(d:In w p L)(hlen:L.length<=100000):Calls prog 18 #[.slice p L.length c] w (dU w L):=by
 by_cases h:L=[]
 .subst h
  cases p with
  | none=>exact GU w c
  | some a=>exact uq w a c
 .obtain⟨b,o,rfl,_⟩:=d.2 h;exact xD w b o c L d h hlen
def gI{L:Eb}(a:In w p L)(hlen:L.length<=100000):Calls prog 18 #[.slice p L.length c] w (zeU w L):=
 (cM a hlen).mono λ_ _ h=>by
  obtain⟨p,c,h1,h2,h3,d,b,_⟩:=h;exact⟨p,c,h1,h2,h3,d,b⟩
end RD
end
section
open TR
namespace RD
structure jy(b:Nat)(w w2:Ea):Prop where
 old:∀c,c<w.heap.size->c≠b->w2.heap[c]?=w.heap[c]?
 size:w.heap.size<=w2.heap.size
 tape:w2.tape=w.tape
 os:w2.os=w.os
 output:w2.output=w.output
 ty:∀(arr:Eh) (t:Eg) (fz:Nat×Nat),w.heap[b]?=some (.cells arr t fz)->∃arr2,w2.heap[b]?=some (.cells arr2 t fz)
def jy.refl(b:Nat)(w:Ea):jy b w w:=⟨λ_ _ _=>rfl,Lh _,rfl,rfl,rfl,λarr _ _ h=>⟨arr,h⟩⟩
def jy.trans{x z:Ea}(h:jy b x y)(k:jy b y z):jy b x z:=
 ⟨λc hc hn=>by rw[k.old c (LK hc h.size) hn,h.old c hc hn],Lj h.size k.size,k.tape.trans h.tape,k.os.trans h.os,k.output.trans h.output,λarr t fz a=>by obtain⟨d,h1⟩:=h.ty arr t fz a;exact k.ty d t fz h1⟩
def jy.zH{x:Ea}(h:Grown x y):jy b x y:=⟨λc hc _=>h.old c hc,h.size,h.tape,h.os,h.output,λarr _ _ a=>⟨arr,(h.old b (LO.1 a).1).trans a⟩⟩
def yk(b o:Nat)(v:Ei)(w:Ea):jy b w (w.setCell ⟨b,o,none⟩ v):=by
 refine⟨λc _ hn=>?_,?_,rfl,rfl,rfl,λarr t fz a=>⟨arr.setIfInBounds o v,?_⟩⟩
 .unfold World.setCell;rw[AD,O (λh=>hn h.symm)]
 .unfold World.setCell;exact Nat.le_of_eq Array.size_modify.symm
 .unfold World.setCell;rw[AD,Y rfl,a];rfl
def Ty(w:Ea)(b:Nat):Prop:=∃arr fz,w.heap[b]?=some (.cells arr 176 fz)
def Ty.only(h:Ty w b)(k:jy b w w2):Ty w2 b:=by
 obtain⟨arr,fz,h⟩:=h;obtain⟨a,h2⟩:=k.ty _ _ _ h;exact⟨a,fz,h2⟩
def dC{L:Eb}(h:In w p L)(k:jy b w w2)(hs:∀a,p=some a->a.block≠b):In w2 p L:=by
 refine⟨h.1,λhn=>?_⟩;obtain⟨b',o,rfl,hc⟩:=h.2 hn;refine⟨b',o,rfl,λi x hi=>?_⟩;have:=hc i x hi;rw[cell?_of_block (k.old b' (block_lt_of_cell? w _ this) (hs _ rfl))];exact this
def TS{o:Nat}{L:Eb}(h:In w (some ⟨b,o,none⟩) L)(n:Nat):In w (some ⟨b,o+n,none⟩) (L.drop n):=by
 refine⟨λy a=>h.1 y (mem_of_mem_drop a),λhn=>?_⟩;have c:L≠[]:=λe=>hn (by rw[e,drop_nil]);obtain⟨b',d,e,hc⟩:=h.2 c;cases e;refine⟨b,o+n,rfl,λi x hi=>?_⟩;rw[getElem?_drop]at hi;rw[show o+n+i=o+(n+i) by omega];exact hc _ x hi
def TP{L:Eb}(h:In w p L)(n:Nat):In w p (L.take n):=by
 refine⟨λy a=>h.1 y (mem_of_mem_take a),λhn=>?_⟩;have c:L≠[]:=λe=>hn (by rw[e,take_nil]);obtain⟨b,o,rfl,hc⟩:=h.2 c;refine⟨b,o,rfl,λi x hi=>hc i x ?_⟩;rw[getElem?_take]at hi;split at hi
 .exact hi
 .cases hi
structure N(w:Ea)(b g:Nat)(L:Eb)(e:Int):Prop where
 left:∃p c,w.cell? ⟨b,0,none⟩=some (.slice p L.length c)/\L.length<=c/\In w p L/\∀a,p=some a->a.block=g
 sep:g≠b
 err:w.cell? ⟨b,1,none⟩=some (.int .i64 e)
 fz0:w.frozen? ⟨b,0,none⟩=false
 fz1:w.frozen? ⟨b,1,none⟩=false
 few:L.length<=100000
def N.grown{L:Eb}(h:N w b g L e)(k:Grown w w2):N w2 b g L e:=by
 obtain⟨p,c,h1,h2,h3,d⟩:=h.left;have hb:=k.old b (block_lt_of_cell? w _ h.err);refine⟨⟨p,c,by rw[cell?_of_block (a:=⟨b,0,none⟩) hb];exact h1,h2,?_,d⟩,h.sep,by rw[cell?_of_block (a:=⟨b,1,none⟩) hb];exact h.err,by rw[frozen?_of_block (a:=⟨b,0,none⟩) hb];exact h.fz0,by rw[frozen?_of_block (a:=⟨b,1,none⟩) hb];exact h.fz1,h.few⟩;refine⟨h3.1,λhn=>?_⟩;obtain⟨b',o,rfl,hc⟩:=h3.2 hn;refine⟨b',o,rfl,λi x hi=>?_⟩;have:=hc i x hi;rw[cell?_of_block (k.old b' (block_lt_of_cell? w _ this))];exact this
def zz{a:Addr}{v:Ei}(h:w.cell? a=some v)(g:Grown w w2):w2.cell? a=some v:=by
 rw[cell?_of_block (g.old _ (block_lt_of_cell? w a h))];exact h
def oK{a:Addr}{v:Ei}(h:w.cell? a=some v)(c:w.frozen? a=false)(g:Grown w w2):w2.frozen? a=false:=by
 rw[frozen?_of_block (g.old _ (block_lt_of_cell? w a h))];exact c
def N.fail{L:Eb}(h:N w b g L e)(f:Int):N (w.setCell ⟨b,1,none⟩ (.int .i64 f)) b g L f:=by
 obtain⟨p,c,h1,h2,h3,d⟩:=h.left;exact⟨⟨p,c,by rw[cell?_setCell_other _ _ _ _ Oc];exact h1,h2,dC h3 (yk b 1 _ w) (λa ha e=>h.sep ((d a ha).symm.trans e)),d⟩,h.sep,cell?_setCell_same _ _ _ h.err,by rw[frozen?_setCell];exact h.fz0,by rw[frozen?_setCell];exact h.fz1,h.few⟩
section
variable{w:Ea}{b g:Nat}{L:Eb}
def kf(h:N w b g L 0):Calls prog 87 #[.pointer (some ⟨b,0,none⟩)] w λe w2=>e = .returned (.bool true)/\w=w2:=by
 have he:=h.err;clear h;go_enter func87,ntmps87;go_wp2
 go_ret
 exact⟨rfl,rfl⟩
def fg(h:N w b g L er)(hn:er≠0):Calls prog 87 #[.pointer (some ⟨b,0,none⟩)] w λe w2=>e = .returned (.bool false)/\w=w2:=by
 have he:=h.err;have hz:(er==0)=false:=by simpa using hn
 clear h hn;go_enter func87,ntmps87;go_wp2
 go_ret
 exact⟨rfl,rfl⟩
def Gv(h:N w b g L 0)(er:Int):Calls prog 142 #[.pointer (some ⟨b,0,none⟩),.int .i64 er] w λe w2=>e = .returned (.tuple #[])/\N w2 b g L er/\jy b w w2:=by
 have H:=A h;have he:=h.err;have hf:=h.fz1;clear h;go_enter func142,ntmps142;go_wp2_with(go_at_call 87;(with_reducible refine(kf H.o).mono ?_);rintro e w1 ⟨rfl,rfl⟩)
 refine⟨rfl,_,results_none rfl _ _ _,rfl,H.o.fail er,yk b 1 _ w⟩
def jh(er:Int):Calls prog 88 #[.pointer (some ⟨b,0,none⟩),.bool false,.int .i64 er] w λe w2=>e = .returned (.bool true)/\w=w2:=by
 go_enter func88,ntmps88
 go_wp2
 go_ret
 exact⟨rfl,rfl⟩
def j6(h:N w b g L 0)(er:Int):Calls prog 88 #[.pointer (some ⟨b,0,none⟩),.bool true,.int .i64 er] w λe w2=>e = .returned (.bool false)/\N w2 b g L er/\jy b w w2:=by
 have H:=A h;clear h;go_enter func88,ntmps88;go_wp2_with(go_at_call 142;(with_reducible refine(Gv H.o er).mono ?_);rintro e w1 ⟨rfl,h1,h2⟩;have H1:=A h1;have H2:=A h2;clear h1 h2)
 go_ret
 exact⟨rfl,H1.o,H2.o⟩
def zeV(w:Ea)(L:Eb)(n:Nat)(e:Ew)(w2:Ea):Prop:=∃p c,e = .returned (.slice p n c)/\Grown w w2/\L.length<=c/\In w2 p L/\∀a,p=some a->w.heap.size<=a.block
def zbl{w:Ea}{L:Eb}(a:In w p L)(hlen:L.length<=100000)(hn:L.length=n):Calls prog 18 #[.slice p n c] w (zeV w L n):=by
 subst hn;exact gI a hlen
def N.set{w:Ea}{b g:Nat}{L:Eb}(h:N w b g L e)(hm:L'.length=m)(hc:L'.length<=c)(hi:In w p L')(hs:∀a,p=some a->a.block=g)(d:L'.length<=100000):N (w.setCell ⟨b,0,none⟩ (.slice p m c)) b g L' e:=by
 obtain⟨f,c0,h1,_,_,_⟩:=h.left;subst hm;exact⟨⟨p,c,cell?_setCell_same _ _ _ h1,hc,dC hi (yk b 0 _ w) (λa ha e=>h.sep ((hs a ha).symm.trans e)),hs⟩,h.sep,by rw[cell?_setCell_other _ _ _ _ Oc];exact h.err,by rw[frozen?_setCell];exact h.fz0,by rw[frozen?_setCell];exact h.fz1,d⟩
def ym{w:Ea}{L:Eb}(h:In w p L)(g:Grown w w2):In w2 p L:=by
 refine⟨h.1,λhn=>?_⟩;obtain⟨b,o,rfl,hc⟩:=h.2 hn;exact⟨b,o,rfl,λi x hi=>zz (hc i x hi) g⟩
def oE{w:Ea}{L:Eb}(h:In w p L)(n:Nat):In w (Option.map (λx=>x.add n) p) (L.drop n):=by
 by_cases a:L=[]
 .subst a;rw[drop_nil];exact Yu _ _
 .obtain⟨b,o,rfl,_⟩:=h.2 a;show In w (some (Addr.add ⟨b,o,none⟩ n)) (L.drop n);rw[Addr.add_lit];exact TS h n
def SF{b:Nat}(h:∀a,p=some a->a.block=b)(n:Nat):∀a,Option.map (λx=>x.add n) p=some a->a.block=b:=by
 intro a ha;obtain⟨x,rfl,rfl⟩:=LU.1 ha;have:(x.add n).block=x.block:=by unfold Addr.add;split<;>rfl
 rw[this];exact h x rfl
def zcD(w:Ea)(b g:Nat)(L:Eb)(e:Int)(n:Nat)(en:Ew)(w2:Ea):Prop:=∃p c,en = .returned (.slice p n c)/\In w2 p (L.take n)/\(∀a,p=some a->w.heap.size<=a.block)/\(L.take n).length<=c/\N w2 b g (L.drop n) e/\jy b w w2
def Qp(h:N w b g L er)(hn:n<=L.length):Calls prog 90 #[.pointer (some ⟨b,0,none⟩),.int .i64 (n:Nat)] w (zcD w b g L er n):=by
 obtain⟨p,c,h1,h2,h3,h4⟩:=h.left;have H:=A h;have HI:=A h3;have HS:=A h4;have hf:=h.fz0;have hn0:(0:Int)<=(n:Int):=by omega
 have hnl:(n:Int)<=(L.length:Int):=by omega
 have hnc:(n:Int)<=(c:Int):=by omega
 clear h h3 h4;go_enter func90,ntmps90;have HT:RowKit.Hid ((L.take n).length=n):=A (by rw[Ar];omega);have HF:RowKit.Hid ((L.take n).length<=100000):=A (by have:=H.o.few;rw[Ar];omega);go_wp2_with(go_at_call 18;(with_reducible refine(zbl (TP HI.o n) HF.o HT.o).mono ?_);rintro e w1 ⟨p',c',rfl,k1,k2,k3,k4⟩;have K1:=A k1;have K2:=A k2;have K3:=A k3;have K4:=A k4;have h1':=zz h1 k1;have hf':=oK h1 hf k1;clear k1 k2 k3 k4)
 .have hln:L.length=n:=by have:=H.o.few;omega
  have hd:L.drop n=[]:=drop_eq_nil_of_le I;have hA:N (w1.setCell ⟨b,0,none⟩ (.slice p (L.length-n) 0)) b g (L.drop n) er:=(H.o.grown K1.o).set (by rw[length_drop]) (by rw[hd];exact Lh 0) (by rw[hd];exact Yu _ _) HS.o (by rw[hd];exact zero_le _);have hO:jy b w (w1.setCell ⟨b,0,none⟩ (.slice p (L.length-n) 0)):=(jy.zH K1.o).trans (yk _ _ _ _);have hI:=dC K3.o (yk b 0 (.slice p (L.length-n) 0) w1) (λa ha e=>by have:=K4.o a ha;have:=block_lt_of_cell? w _ h1;have:b<w.heap.size:=this;omega);have HAA:=A (And.intro hA (And.intro hO hI));clear hA hO hI;go_ret;exact⟨p',c',rfl,HAA.o.2.2,K4.o,K2.o,HAA.o.1,HAA.o.2.1⟩
 .have hA:N (w1.setCell ⟨b,0,none⟩ (.slice (Option.map (λx=>x.add n) p) (L.length-n) (c-n))) b g (L.drop n) er:=(H.o.grown K1.o).set (by rw[length_drop]) (by rw[length_drop];omega) (ym (oE HI.o n) K1.o) (SF HS.o n) (by have:=H.o.few;rw[length_drop];omega);have hO:jy b w (w1.setCell ⟨b,0,none⟩ (.slice (Option.map (λx=>x.add n) p) (L.length-n) (c-n))):=(jy.zH K1.o).trans (yk _ _ _ _);have hI:=dC K3.o (yk b 0 (.slice (Option.map (λx=>x.add n) p) (L.length-n) (c-n)) w1) (λa ha e=>by have:=K4.o a ha;have:=block_lt_of_cell? w _ h1;have:b<w.heap.size:=this;omega);have HAA:=A (And.intro hA (And.intro hO hI));clear hA hO hI;go_ret
  exact⟨p',c',rfl,HAA.o.2.2,K4.o,K2.o,HAA.o.1,HAA.o.2.1⟩
end
end RD
end
section
open TR
namespace RD
def OkP(w:Ea)(b g:Nat)(L:Eb)(v:Ei)(e:Ew)(w2:Ea):Prop:=e = .returned v/\N w2 b g L 0/\jy b w w2
def Qj(w:Ea)(b g:Nat)(L:Eb)(v:Ei)(e:Ew)(w2:Ea):Prop:=∃er:Int,er≠0/\e = .returned v/\N w2 b g L er/\jy b w w2
section
variable{w:Ea}{b g:Nat}{L:Eb}
def Un(h:N w b g L 0)(hn:num 0 0 L=none):Calls prog 89 #[.pointer (some ⟨b,0,none⟩)] w λe w2=>e = .returned (.tuple #[.int .u64 0,.int .i64 0])/\w=w2:=by
 obtain⟨p,c,h1,h2,h3,a⟩:=h.left;refine(ck h3 h.few h1).mono λe w2 hp=>?_;rw[hn]at hp;exact⟨hp.2,hp.1.symm⟩
def QU(h:N w b g L 0)(hn:num 0 0 L=some (v,n)):Calls prog 89 #[.pointer (some ⟨b,0,none⟩)] w λe w2=>e = .returned (.tuple #[.int .u64 (v:Nat),.int .i64 (n:Nat)])/\w=w2:=by
 obtain⟨p,c,h1,h2,h3,a⟩:=h.left;refine(ck h3 h.few h1).mono λe w2 hp=>?_;rw[hn]at hp;exact⟨hp.2,hp.1.symm⟩
def uk(h:N w b g L er)(hn:er≠0)(m:Nat):Calls prog 41 #[.pointer (some ⟨b,0,none⟩),.int .i64 (m:Nat)] w (Qj w b g L (.int .i64 0)):=by
 have H:=A h;have HN:=A hn;clear h hn;go_enter func41,ntmps41;go_wp2_with(go_at_call 87;(with_reducible refine(fg H.o HN.o).mono ?_);rintro e w1 ⟨rfl,rfl⟩)
 go_ret
 exact⟨er,HN.o,rfl,H.o,jy.refl _ _⟩
def xz(h:N w b g L 0)(hn:num 0 0 L=none)(hb:m<=9000000000000000000):Calls prog 41 #[.pointer (some ⟨b,0,none⟩),.int .i64 (m:Nat)] w (Qj w b g L (.int .i64 0)):=by
 have H:=A h;clear h;have HN:=A hn;clear hn;have hm:decide ((m:Int)<0)=false:=LC I;go_enter func41,ntmps41
 go_wp2_with(first
  | (go_at_call 87;(with_reducible refine(kf H.o).mono ?_);rintro e w1 ⟨rfl,rfl⟩)
  | (go_at_call 88;(with_reducible refine(jh _).mono ?_);rintro e w1 ⟨rfl,rfl⟩)
  | (go_at_call 88;(with_reducible refine(j6 H.o _).mono ?_);rintro e w1 ⟨rfl,h1,h2⟩;have H1:=A h1;have H2:=A h2;clear h1 h2)
  | (go_at_call 89;(with_reducible refine(Un H.o HN.o).mono ?_);rintro e w1 ⟨rfl,rfl⟩))
 go_ret
 exact⟨_,C,rfl,H1.o,H2.o⟩
def GF(h:N w b g L 0)(hn:num 0 0 L=some (v,n))(hb:m<=9000000000000000000)(hv:m<v):Calls prog 41 #[.pointer (some ⟨b,0,none⟩),.int .i64 (m:Nat)] w (Qj w b g L (.int .i64 0)):=by
 have H:=A h;clear h;have HN:=A hn;have hle:=Xo _ _ _ hn;have hz:((n:Int)==0)=false:=by simp;have:=hle.1;omega
 have hm:decide ((m:Int)<0)=false:=LC I;have hw:IntKind.u64.wrap (m:Int)=(m:Int):=u64_in _ I;have hd:decide ((m:Int)<(v:Int))=true:=Lx I;have hd2:decide (m<v)=true:=Lx I;clear hn hle;go_enter func41,ntmps41
 go_wp2_with(first
  | (go_at_call 87;(with_reducible refine(kf H.o).mono ?_);rintro e w1 ⟨rfl,rfl⟩)
  | (go_at_call 88;(with_reducible refine(jh _).mono ?_);rintro e w1 ⟨rfl,rfl⟩)
  | (go_at_call 88;(with_reducible refine(j6 H.o _).mono ?_);rintro e w1 ⟨rfl,h1,h2⟩;have H1:=A h1;have H2:=A h2;clear h1 h2)
  | (go_at_call 89;(with_reducible refine(QU H.o HN.o).mono ?_);rintro e w1 ⟨rfl,rfl⟩))
 go_ret
 exact⟨_,C,rfl,H1.o,H2.o⟩
def PX(h:N w b g L 0)(hn:num 0 0 L=some (v,n))(hb:m<=9000000000000000000)(hv:v<=m):Calls prog 41 #[.pointer (some ⟨b,0,none⟩),.int .i64 (m:Nat)] w (OkP w b g (L.drop n) (.int .i64 (v:Nat))):=by
 have H:=A h;clear h;have HN:=A hn;have hle:=Xo _ _ _ hn;have hz:((n:Int)==0)=false:=by simp;have:=hle.1;omega
 have hm:decide ((m:Int)<0)=false:=LC I;have hw:IntKind.u64.wrap (m:Int)=(m:Int):=u64_in _ I;have hd:decide ((m:Int)<(v:Int))=false:=LC I;have hd2:decide (m<v)=false:=LC I;have hi:IntKind.i64.wrap (v:Int)=(v:Int):=i64_in _ I;have HLE:RowKit.Hid (n<=L.length):=A (by have:=hle.2;omega);clear hn hle;go_enter func41,ntmps41
 go_wp2_with(first
  | (go_at_call 87;(with_reducible refine(kf H.o).mono ?_);rintro e w1 ⟨rfl,rfl⟩)
  | (go_at_call 88;(with_reducible refine(jh _).mono ?_);rintro e w1 ⟨rfl,rfl⟩)
  | (go_at_call 89;(with_reducible refine(QU H.o HN.o).mono ?_);rintro e w1 ⟨rfl,rfl⟩)
  | (go_at_call 90;(with_reducible refine(Qp H.o HLE.o).mono ?_);rintro e w2 ⟨p,c,rfl,t1,t2,t3,t4,t5⟩;have T:=A (And.intro t4 t5);clear t1 t2 t3 t4 t5))
 go_ret
 exact⟨rfl,T.o.1,T.o.2⟩
def uint_none(h:N w b g L 0)(hn:num 0 0 L=none)(hb:m<=9000000000000000000):Calls prog 143 #[.pointer (some ⟨b,0,none⟩),.int .u64 (m:Nat)] w (Qj w b g L (.int .u64 0)):=by
 have H:=A h;clear h;have HN:=A hn;clear hn;go_enter func143,ntmps143
 go_wp2_with(first
  | (go_at_call 87;(with_reducible refine(kf H.o).mono ?_);rintro e w1 ⟨rfl,rfl⟩)
  | (go_at_call 88;(with_reducible refine(jh _).mono ?_);rintro e w1 ⟨rfl,rfl⟩)
  | (go_at_call 88;(with_reducible refine(j6 H.o _).mono ?_);rintro e w1 ⟨rfl,h1,h2⟩;have H1:=A h1;have H2:=A h2;clear h1 h2)
  | (go_at_call 89;(with_reducible refine(Un H.o HN.o).mono ?_);rintro e w1 ⟨rfl,rfl⟩))
 go_ret
 exact⟨_,C,rfl,H1.o,H2.o⟩
def uint_big(h:N w b g L 0)(hn:num 0 0 L=some (v,n))(hb:m<=9000000000000000000)(hv:m<v):Calls prog 143 #[.pointer (some ⟨b,0,none⟩),.int .u64 (m:Nat)] w (Qj w b g L (.int .u64 0)):=by
 have H:=A h;clear h;have HN:=A hn;have hle:=Xo _ _ _ hn;have hz:((n:Int)==0)=false:=by simp;have:=hle.1;omega
 have hd:decide ((m:Int)<(v:Int))=true:=Lx I;have hd2:decide (m<v)=true:=Lx I;clear hn hle;go_enter func143,ntmps143
 go_wp2_with(first
  | (go_at_call 87;(with_reducible refine(kf H.o).mono ?_);rintro e w1 ⟨rfl,rfl⟩)
  | (go_at_call 88;(with_reducible refine(jh _).mono ?_);rintro e w1 ⟨rfl,rfl⟩)
  | (go_at_call 88;(with_reducible refine(j6 H.o _).mono ?_);rintro e w1 ⟨rfl,h1,h2⟩;have H1:=A h1;have H2:=A h2;clear h1 h2)
  | (go_at_call 89;(with_reducible refine(QU H.o HN.o).mono ?_);rintro e w1 ⟨rfl,rfl⟩))
 go_ret
 exact⟨_,C,rfl,H1.o,H2.o⟩
def uint_ok(h:N w b g L 0)(hn:num 0 0 L=some (v,n))(hb:m<=9000000000000000000)(hv:v<=m):Calls prog 143 #[.pointer (some ⟨b,0,none⟩),.int .u64 (m:Nat)] w (OkP w b g (L.drop n) (.int .u64 (v:Nat))):=by
 have H:=A h;clear h;have HN:=A hn;have hle:=Xo _ _ _ hn;have hz:((n:Int)==0)=false:=by simp;have:=hle.1;omega
 have hd:decide ((m:Int)<(v:Int))=false:=LC I;have hd2:decide (m<v)=false:=LC I;have HLE:RowKit.Hid (n<=L.length):=A (by have:=hle.2;omega);clear hn hle;go_enter func143,ntmps143
 go_wp2_with(first
  | (go_at_call 87;(with_reducible refine(kf H.o).mono ?_);rintro e w1 ⟨rfl,rfl⟩)
  | (go_at_call 88;(with_reducible refine(jh _).mono ?_);rintro e w1 ⟨rfl,rfl⟩)
  | (go_at_call 89;(with_reducible refine(QU H.o HN.o).mono ?_);rintro e w1 ⟨rfl,rfl⟩)
  | (go_at_call 90;(with_reducible refine(Qp H.o HLE.o).mono ?_);rintro e w2 ⟨p,c,rfl,t1,t2,t3,t4,t5⟩;have T:=A (And.intro t4 t5);clear t1 t2 t3 t4 t5))
 go_ret
 exact⟨rfl,T.o.1,T.o.2⟩
end
end RD
end
section
open TR
namespace RD
def zbU(w:Ea)(b g:Nat)(n:Nat)(M L:Eb)(e:Ew)(w2:Ea):Prop:=∃p c,e = .returned (.slice p n c)/\M.length=n/\In w2 p M/\(∀a,p=some a->w.heap.size<=a.block)/\M.length<=c/\N w2 b g L 0/\jy b w w2
section
variable{w:Ea}{b g:Nat}{L:Eb}
def uA(h:N w b g L er)(hn:er≠0)(m:Nat):Calls prog 43 #[.pointer (some ⟨b,0,none⟩),.int .i64 (m:Nat)] w (Qj w b g L (.slice none 0 0)):=by
 have H:=A h;obtain⟨p,c,h1,h2,_,_⟩:=id h.left;clear h;have HN:=A hn;clear hn;go_enter func43,ntmps43
 go_wp2_with(first
  | (go_at_call 87;(with_reducible refine(fg H.o HN.o).mono ?_);rintro e w1 ⟨rfl,rfl⟩))
 go_ret
 exact⟨er,HN.o,rfl,H.o,jy.refl _ _⟩
def xO(h:N w b g L 0)(hn:num 0 0 L=none)(m:Nat):Calls prog 43 #[.pointer (some ⟨b,0,none⟩),.int .i64 (m:Nat)] w (Qj w b g L (.slice none 0 0)):=by
 have H:=A h;obtain⟨p,c,h1,h2,_,_⟩:=id h.left;clear h;have HN:=A hn;clear hn;have hm:decide ((m:Int)<0)=false:=LC I;go_enter func43,ntmps43
 go_wp2_with(first
  | (go_at_call 87;(with_reducible refine(kf H.o).mono ?_);rintro e w1 ⟨rfl,rfl⟩)
  | (go_at_call 88;(with_reducible refine(jh _).mono ?_);rintro e w1 ⟨rfl,rfl⟩)
  | (go_at_call 88;(with_reducible refine(j6 H.o _).mono ?_);rintro e w1 ⟨rfl,h1,h2⟩;have H1:=A h1;have H2:=A h2;clear h1 h2)
  | (go_at_call 89;(with_reducible refine(Un H.o HN.o).mono ?_);rintro e w1 ⟨rfl,rfl⟩))
 go_ret
 exact⟨_,C,rfl,H1.o,H2.o⟩
def Hg(h:N w b g L 0)(hn:num 0 0 L=some (v,n))(hb:m<=1000000)(hv:m<v):Calls prog 43 #[.pointer (some ⟨b,0,none⟩),.int .i64 (m:Nat)] w (Qj w b g L (.slice none 0 0)):=by
 have H:=A h;obtain⟨p,c,h1,h2,_,_⟩:=id h.left;clear h;have HN:=A hn;have hle:=Xo _ _ _ hn;have hz:((n:Int)==0)=false:=by simp;have:=hle.1;omega
 have hm:decide ((m:Int)<0)=false:=LC I;have hw:IntKind.u64.wrap (m:Int)=(m:Int):=u64_in _ I;have hd:decide ((m:Int)<(v:Int))=true:=Lx I;have hd2:decide (m<v)=true:=Lx I;clear hn hle;go_enter func43,ntmps43
 go_wp2_with(first
  | (go_at_call 87;(with_reducible refine(kf H.o).mono ?_);rintro e w1 ⟨rfl,rfl⟩)
  | (go_at_call 88;(with_reducible refine(jh _).mono ?_);rintro e w1 ⟨rfl,rfl⟩)
  | (go_at_call 88;(with_reducible refine(j6 H.o _).mono ?_);rintro e w1 ⟨rfl,h1,h2⟩;have H1:=A h1;have H2:=A h2;clear h1 h2)
  | (go_at_call 89;(with_reducible refine(QU H.o HN.o).mono ?_);rintro e w1 ⟨rfl,rfl⟩))
 go_ret
 exact⟨_,C,rfl,H1.o,H2.o⟩
def uy(h:N w b g L 0)(hn:num 0 0 L=some (v,n))(hb:m<=1000000)(hv:v<=m)(hs:L.length-n<v):Calls prog 43 #[.pointer (some ⟨b,0,none⟩),.int .i64 (m:Nat)] w (Qj w b g L (.slice none 0 0)):=by
 have H:=A h;obtain⟨p,c,h1,h2,_,_⟩:=id h.left;clear h;have hs0:=hs;clear hs;have HN:=A hn;have hle:=Xo _ _ _ hn;have hz:((n:Int)==0)=false:=by simp;have:=hle.1;omega
 have hm:decide ((m:Int)<0)=false:=LC I;have hw:IntKind.u64.wrap (m:Int)=(m:Int):=u64_in _ I;have hd:decide ((m:Int)<(v:Int))=false:=LC I;have hd2:decide (m<v)=false:=LC I;have few:=H.o.few;have hs:IntKind.i64.wrap ((L.length:Int)-(n:Int))=((L.length-n:Nat):Int):=by rw[i64_in _ (by have:=hle.2;omega)];have:=hle.2;omega
 have hs2:((L.length:Int)-(n:Int))=((L.length-n:Nat):Int):=by have:=hle.2;omega
 have h64:RowKit.wrap64 ((L.length-n:Nat):Int)=((L.length-n:Nat):Int):=by unfold RowKit.wrap64;omega
 have hu:IntKind.u64.wrap ((L.length-n:Nat):Int)=((L.length-n:Nat):Int):=u64_in _ I;have he:decide (((L.length-n:Nat):Int)<(v:Int))=true:=Lx I;have he2:decide (L.length-n<v)=true:=Lx I;clear hn hle few;go_enter func43,ntmps43
 go_wp2_with(first
  | (go_at_call 87;(with_reducible refine(kf H.o).mono ?_);rintro e w1 ⟨rfl,rfl⟩)
  | (go_at_call 88;(with_reducible refine(jh _).mono ?_);rintro e w1 ⟨rfl,rfl⟩)
  | (go_at_call 88;(with_reducible refine(j6 H.o _).mono ?_);rintro e w1 ⟨rfl,h1,h2⟩;have H1:=A h1;have H2:=A h2;clear h1 h2)
  | (go_at_call 89;(with_reducible refine(QU H.o HN.o).mono ?_);rintro e w1 ⟨rfl,rfl⟩))
 go_ret
 exact⟨_,C,rfl,H1.o,H2.o⟩
def gV(h:N w b g L 0)(hn:num 0 0 L=some (v,n))(hb:m<=1000000)(hv:v<=m)(hs:v<=L.length-n):Calls prog 43 #[.pointer (some ⟨b,0,none⟩),.int .i64 (m:Nat)] w (zbU w b g v ((L.drop n).take v) (L.drop (n+v))):=by
 have H:=A h;obtain⟨p,c,h1,h2,_,_⟩:=id h.left;clear h;have hs0:=hs;clear hs;have HN:=A hn;have hle:=Xo _ _ _ hn;have hz:((n:Int)==0)=false:=by simp;have:=hle.1;omega
 have hm:decide ((m:Int)<0)=false:=LC I;have hw:IntKind.u64.wrap (m:Int)=(m:Int):=u64_in _ I;have hd:decide ((m:Int)<(v:Int))=false:=LC I;have hd2:decide (m<v)=false:=LC I;have few:=H.o.few;have hs:IntKind.i64.wrap ((L.length:Int)-(n:Int))=((L.length-n:Nat):Int):=by rw[i64_in _ (by have:=hle.2;omega)];have:=hle.2;omega
 have hs2:((L.length:Int)-(n:Int))=((L.length-n:Nat):Int):=by have:=hle.2;omega
 have h64:RowKit.wrap64 ((L.length-n:Nat):Int)=((L.length-n:Nat):Int):=by unfold RowKit.wrap64;omega
 have hu:IntKind.u64.wrap ((L.length-n:Nat):Int)=((L.length-n:Nat):Int):=u64_in _ I;have he:decide (((L.length-n:Nat):Int)<(v:Int))=false:=LC I;have he2:decide (L.length-n<v)=false:=LC I;have hi:IntKind.i64.wrap (v:Int)=(v:Int):=i64_in _ I;have HLE:RowKit.Hid (n<=L.length):=A (by have:=hle.2;omega);have HV:RowKit.Hid (v<=(L.drop n).length):=A (by rw[length_drop];exact hs0);clear hn hle few;go_enter func43,ntmps43
 go_wp2_with(first
  | (go_at_call 87;(with_reducible refine(kf H.o).mono ?_);rintro e w1 ⟨rfl,rfl⟩)
  | (go_at_call 88;(with_reducible refine(jh _).mono ?_);rintro e w1 ⟨rfl,rfl⟩)
  | (go_at_call 89;(with_reducible refine(QU H.o HN.o).mono ?_);rintro e w1 ⟨rfl,rfl⟩)
  | (go_at_call 90;(with_reducible refine(Qp H.o HLE.o).mono ?_);rintro e w2 ⟨p',c',rfl,t1,t2,t3,t4,t5⟩;have T1:=A t1;have T2:=A t2;have T3:=A t3;have T:=A (And.intro t4 t5);clear t1 t2 t3 t4 t5)
  | (go_at_call 90;(with_reducible refine(Qp T.o.1 HV.o).mono ?_);rintro e w3 ⟨p'',c'',rfl,t1,t2,t3,t4,t5⟩;have S1:=A t1;have S2:=A t2;have S3:=A t3;have S:=A (And.intro t4 t5);clear t1 t2 t3 t4 t5))
 go_ret
 exact⟨p'',c'',rfl,(by rw[Ar];have:=HV.o;omega),S1.o,λa ha=>Lj T.o.2.size (S2.o a ha),S3.o,(drop_drop ▸ S.o.1:N w3 b g (L.drop (n+v)) 0),T.o.2.trans S.o.2⟩
def zdp(h:N w b g L er)(hn:er≠0)(m:Nat):Calls prog 44 #[.pointer (some ⟨b,0,none⟩),.int .i64 (m:Nat)] w (Qj w b g L (.slice none 0 0)):=by
 have H:=A h;obtain⟨p,c,h1,h2,_,_⟩:=id h.left;clear h;have HN:=A hn;clear hn;go_enter func44,ntmps44
 go_wp2_with(first
  | (go_at_call 87;(with_reducible refine(fg H.o HN.o).mono ?_);rintro e w1 ⟨rfl,rfl⟩))
 go_ret
 exact⟨er,HN.o,rfl,H.o,jy.refl _ _⟩
def lM(h:N w b g L 0)(hs:L.length<m):Calls prog 44 #[.pointer (some ⟨b,0,none⟩),.int .i64 (m:Nat)] w (Qj w b g L (.slice none 0 0)):=by
 have H:=A h;obtain⟨p,c,h1,h2,_,_⟩:=id h.left;clear h;have hm:decide ((m:Int)<0)=false:=LC I;have he:decide ((L.length:Int)<(m:Int))=true:=Lx I;have he2:decide (L.length<m)=true:=Lx I;go_enter func44,ntmps44
 go_wp2_with(first
  | (go_at_call 87;(with_reducible refine(kf H.o).mono ?_);rintro e w1 ⟨rfl,rfl⟩)
  | (go_at_call 88;(with_reducible refine(jh _).mono ?_);rintro e w1 ⟨rfl,rfl⟩)
  | (go_at_call 88;(with_reducible refine(j6 H.o _).mono ?_);rintro e w1 ⟨rfl,h1,h2⟩;have H1:=A h1;have H2:=A h2;clear h1 h2))
 go_ret
 exact⟨_,C,rfl,H1.o,H2.o⟩
def nP(h:N w b g L 0)(hs:n<=L.length):Calls prog 44 #[.pointer (some ⟨b,0,none⟩),.int .i64 (n:Nat)] w (zbU w b g n (L.take n) (L.drop n)):=by
 have H:=A h;obtain⟨p,c,h1,h2,_,_⟩:=id h.left;clear h;have hm:decide ((n:Int)<0)=false:=LC I;have he:decide ((L.length:Int)<(n:Int))=false:=LC I;have he2:decide (L.length<n)=false:=LC I;have HLE:=A hs;clear hs;go_enter func44,ntmps44
 go_wp2_with(first
  | (go_at_call 87;(with_reducible refine(kf H.o).mono ?_);rintro e w1 ⟨rfl,rfl⟩)
  | (go_at_call 88;(with_reducible refine(jh _).mono ?_);rintro e w1 ⟨rfl,rfl⟩)
  | (go_at_call 90;(with_reducible refine(Qp H.o HLE.o).mono ?_);rintro e w2 ⟨p',c',rfl,t1,t2,t3,t4,t5⟩;have T1:=A t1;have T2:=A t2;have T3:=A t3;have T:=A (And.intro t4 t5);clear t1 t2 t3 t4 t5))
 go_ret
 exact⟨p',c',rfl,(by rw[Ar];have:=HLE.o;omega),T1.o,T2.o,T3.o,T.o.1,T.o.2⟩
def gn(h:N w b g L er):Calls prog 96 #[.pointer (some ⟨b,0,none⟩)] w λe w2=>e = .returned (.int .i64 er)/\w=w2:=by
 have he:=h.err;clear h;go_enter func96,ntmps96;go_wp2
 go_ret
 exact⟨rfl,rfl⟩
def xq(h:N w b g L er)(hn:er≠0):Calls prog 45 #[.pointer (some ⟨b,0,none⟩)] w λe w2=>e = .returned (.int .i64 er)/\w=w2:=by
 have H:=A h;obtain⟨p,c,h1,h2,_,_⟩:=id h.left;clear h;have HN:=A hn;clear hn;go_enter func45,ntmps45
 go_wp2_with(first
  | (go_at_call 87;(with_reducible refine(fg H.o HN.o).mono ?_);rintro e w1 ⟨rfl,rfl⟩)
  | (go_at_call 96;(with_reducible refine(gn H.o).mono ?_);rintro e w1 ⟨rfl,rfl⟩))
 go_ret
 exact⟨rfl,rfl⟩
def ug(h:N w b g L 0)(hn:0<L.length):Calls prog 45 #[.pointer (some ⟨b,0,none⟩)] w λe w2=>e = .returned (.int .i64 6)/\w=w2:=by
 have H:=A h;obtain⟨p,c,h1,h2,_,_⟩:=id h.left;clear h;have he:decide ((0:Int)<(L.length:Int))=true:=Lx I;go_enter func45,ntmps45
 go_wp2_with(first
  | (go_at_call 87;(with_reducible refine(kf H.o).mono ?_);rintro e w1 ⟨rfl,rfl⟩)
  | (go_at_call 96;(with_reducible refine(gn H.o).mono ?_);rintro e w1 ⟨rfl,rfl⟩))
 go_ret
 exact⟨rfl,rfl⟩
def oP(h:N w b g L 0)(hn:L.length=0):Calls prog 45 #[.pointer (some ⟨b,0,none⟩)] w λe w2=>e = .returned (.int .i64 0)/\w=w2:=by
 have H:=A h;obtain⟨p,c,h1,h2,_,_⟩:=id h.left;clear h;have he:decide ((0:Int)<(L.length:Int))=false:=LC I;go_enter func45,ntmps45
 go_wp2_with(first
  | (go_at_call 87;(with_reducible refine(kf H.o).mono ?_);rintro e w1 ⟨rfl,rfl⟩)
  | (go_at_call 96;(with_reducible refine(gn H.o).mono ?_);rintro e w1 ⟨rfl,rfl⟩))
 go_ret
 exact⟨rfl,rfl⟩
end
end RD
end
section
open TR
namespace RD
def uintR(m:Nat)(L:Eb):Option (Nat×List Nat):=match num 0 0 L with|none=>none|some (v,n)=>if v<=m then some (v,L.drop n) else none
def jF(m:Nat)(L:Eb):Option (List Nat×List Nat):=match num 0 0 L with|none=>none|some (v,n)=>if v<=m/\v<=L.length-n then some ((L.drop n).take v,L.drop (n+v)) else none
def cJ:List Nat->Option (Bool×List Nat)|[]=>none|x::L=>if x<=1 then some (x==1,L) else none
def unzig(u:Nat):Int:=if u % 2=1 then -((u / 2:Nat):Int)-1 else((u / 2:Nat):Int)
def bc(L:Eb):Option (Int×List Nat):=match num 0 0 L with|none=>none|some (u,n)=>some (unzig u,L.drop n)
def uintR_le{L:Eb}(h:uintR m L=some (v,L')):v<=m:=by
 unfold uintR at h;split at h
 .cases h
 .split at h
  .cases h;assumption
  .cases h
section
variable{w:Ea}{b g:Nat}{L:Eb}
def uint_bad(h:N w b g L 0)(hb:m<=9000000000000000000)(a:uintR m L=none):Calls prog 143 #[.pointer (some ⟨b,0,none⟩),.int .u64 (m:Nat)] w (Qj w b g L (.int .u64 0)):=by
 unfold uintR at a;split at a
 .rename_i hn;exact uint_none h hn hb
 .rename_i v n hn;split at a
  .cases a
  .exact uint_big h hn hb I
def uint_good(h:N w b g L 0)(hb:m<=9000000000000000000)(a:uintR m L=some (v,L')):Calls prog 143 #[.pointer (some ⟨b,0,none⟩),.int .u64 (m:Nat)] w (OkP w b g L' (.int .u64 (v:Nat))):=by
 unfold uintR at a;split at a
 .cases a
 .rename_i v n hn;split at a
  .cases a;exact uint_ok h hn hb (by assumption)
  .cases a
def GH(h:N w b g L 0)(hb:m<=9000000000000000000)(a:uintR m L=none):Calls prog 41 #[.pointer (some ⟨b,0,none⟩),.int .i64 (m:Nat)] w (Qj w b g L (.int .i64 0)):=by
 unfold uintR at a;split at a
 .rename_i hn;exact xz h hn hb
 .rename_i v n hn;split at a
  .cases a
  .exact GF h hn hb I
def Km(h:N w b g L 0)(hb:m<=9000000000000000000)(a:uintR m L=some (v,L')):Calls prog 41 #[.pointer (some ⟨b,0,none⟩),.int .i64 (m:Nat)] w (OkP w b g L' (.int .i64 (v:Nat))):=by
 unfold uintR at a;split at a
 .cases a
 .rename_i v n hn;split at a
  .cases a;exact PX h hn hb (by assumption)
  .cases a
def bz(h:N w b g L 0)(hb:m<=1000000)(a:jF m L=none):Calls prog 43 #[.pointer (some ⟨b,0,none⟩),.int .i64 (m:Nat)] w (Qj w b g L (.slice none 0 0)):=by
 unfold jF at a;split at a
 .rename_i hn;exact xO h hn m
 .rename_i v n hn;split at a
  .cases a
  .rename_i hc;by_cases hv:v<=m
   .exact uy h hn hb hv I
   .exact Hg h hn hb I
def Kr(h:N w b g L 0){M:Eb}(hb:m<=1000000)(a:jF m L=some (M,L')):Calls prog 43 #[.pointer (some ⟨b,0,none⟩),.int .i64 (m:Nat)] w (zbU w b g M.length M L'):=by
 unfold jF at a;split at a
 .cases a
 .rename_i v n hn;split at a
  .rename_i hc;cases a;have hl:((L.drop n).take v).length=v:=by rw[Ar,length_drop];omega
   rw[hl];exact gV h hn hb hc.1 hc.2
  .cases a
def Cw(h:N w b g L er)(hn:er≠0)(m:Nat):Calls prog 91 #[.pointer (some ⟨b,0,none⟩),.int .i64 (m:Nat)] w (Qj w b g L (.int .i64 0)):=by
 have H:=A h;obtain⟨p,c,h1,h2,_,_⟩:=id h.left;clear h;have HN:=A hn;clear hn;go_enter func91,ntmps91
 go_wp2_with(first
  | (go_at_call 87;(with_reducible refine(fg H.o HN.o).mono ?_);rintro e w1 ⟨rfl,rfl⟩))
 go_ret
 exact⟨er,HN.o,rfl,H.o,jy.refl _ _⟩
def sR(h:N w b g L 0)(hb:m<=9000000000000000000)(hr:uintR m L=none):Calls prog 91 #[.pointer (some ⟨b,0,none⟩),.int .i64 (m:Nat)] w (Qj w b g L (.int .i64 0)):=by
 have H:=A h;obtain⟨p,c,h1,h2,_,_⟩:=id h.left;clear h;have HN:=A hr;have HB:=A hb;have hm:decide ((m:Int)<0)=false:=LC I;have hw:IntKind.u64.wrap (m:Int)=(m:Int):=u64_in _ I;clear hr hb;go_enter func91,ntmps91
 go_wp2_with(first
  | (go_at_call 87;(with_reducible refine(kf H.o).mono ?_);rintro e w1 ⟨rfl,rfl⟩)
  | (go_at_call 88;(with_reducible refine(jh _).mono ?_);rintro e w1 ⟨rfl,rfl⟩)
  | (go_at_call 143;(with_reducible refine(uint_bad H.o HB.o HN.o).mono ?_);rintro e w1 ⟨er,h0,rfl,h1,h2⟩;have H0:=A h0;have H1:=A h1;have H2:=A h2;clear h0 h1 h2))
 go_ret
 exact⟨er,H0.o,rfl,H1.o,H2.o⟩
def aQ(h:N w b g L 0)(hb:m<=9000000000000000000)(hr:uintR m L=some (v,L')):Calls prog 91 #[.pointer (some ⟨b,0,none⟩),.int .i64 (m:Nat)] w (OkP w b g L' (.int .i64 (v:Nat))):=by
 have H:=A h;obtain⟨p,c,h1,h2,_,_⟩:=id h.left;clear h;have HN:=A hr;have HB:=A hb;have hm:decide ((m:Int)<0)=false:=LC I;have hw:IntKind.u64.wrap (m:Int)=(m:Int):=u64_in _ I;have hv:=uintR_le hr;have hi:IntKind.i64.wrap (v:Int)=(v:Int):=i64_in _ I;clear hr hb hv;go_enter func91,ntmps91
 go_wp2_with(first
  | (go_at_call 87;(with_reducible refine(kf H.o).mono ?_);rintro e w1 ⟨rfl,rfl⟩)
  | (go_at_call 88;(with_reducible refine(jh _).mono ?_);rintro e w1 ⟨rfl,rfl⟩)
  | (go_at_call 143;(with_reducible refine(uint_good H.o HB.o HN.o).mono ?_);rintro e w1 ⟨rfl,h1,h2⟩;have H1:=A h1;have H2:=A h2;clear h1 h2))
 go_ret
 exact⟨rfl,H1.o,H2.o⟩
end
end RD
end
section
open TR
namespace RD
def u5:Tryz.prog.underlying 5=some (.int .u8):=U
def u9:Tryz.prog.underlying 9=some .string:=U
def gF(w:Ea)(p:Ed)(c:Nat):(convert 51 9 (.slice p 0 c)).run prog w = .ok (.string (str [])) w:=by
 rw[run_convert_bytes_string w 51 9 5 p 0 c under51 u5 u9];cases p<;>simp[Conv.bytesToString,str]<;>rfl
def P0{M:Eb}(c:Nat)(h:In w p M)(hn:M.length=n):(convert 51 9 (.slice p n c)).run prog w = .ok (.string (str M)) w:=by
 subst hn;by_cases d:M=[]
 .subst d;exact gF w p c
 .obtain⟨b,o,rfl,hc⟩:=h.2 d
  have:=run_convert_bytes_back (P:=prog) w 51 9 5 ⟨b,o,none⟩ c (M.map UInt8.ofNat) under51 u5 u9 (λj e=>by
   rw[Addr.add_lit];have a:j<M.length:=by simpa using e
   rw[hc j M[j] (Ly a),List.getElem_map,toNat_ofNat',AA (h.1 _ (AL a))])
  rw[Ls]at this;exact this
section
variable{w:Ea}{b g:Nat}{L:Eb}
def ln(h:N w b g L er)(hn:er≠0)(m:Nat):Calls prog 92 #[.pointer (some ⟨b,0,none⟩),.int .i64 (m:Nat)] w (Qj w b g L (.string (str []))):=by
 have H:=A h;obtain⟨p,c,h1,h2,_,_⟩:=id h.left;clear h;have HN:=A hn;clear hn;go_enter func92,ntmps92
 go_wp2_with(first
  | (go_at_call 43;(with_reducible refine(uA H.o HN.o _).mono ?_);rintro e w1 ⟨er,h0,rfl,k1,k2⟩;have hcv:=gF w1 none 0;have H0:=A h0;have H1:=A k1;have H2:=A k2;clear h0 k1 k2))
 go_ret
 exact⟨er,H0.o,rfl,H1.o,H2.o⟩
def vu(h:N w b g L 0)(hb:m<=1000000)(hr:jF m L=none):Calls prog 92 #[.pointer (some ⟨b,0,none⟩),.int .i64 (m:Nat)] w (Qj w b g L (.string (str []))):=by
 have H:=A h;obtain⟨p,c,h1,h2,_,_⟩:=id h.left;clear h;have HN:=A hr;have HB:=A hb;clear hr hb;go_enter func92,ntmps92
 go_wp2_with(first
  | (go_at_call 43;(with_reducible refine(bz H.o HB.o HN.o).mono ?_);rintro e w1 ⟨er,h0,rfl,k1,k2⟩;have hcv:=gF w1 none 0;have H0:=A h0;have H1:=A k1;have H2:=A k2;clear h0 k1 k2))
 go_ret
 exact⟨er,H0.o,rfl,H1.o,H2.o⟩
def bR(h:N w b g L 0){M:Eb}(hb:m<=1000000)(hr:jF m L=some (M,L')):Calls prog 92 #[.pointer (some ⟨b,0,none⟩),.int .i64 (m:Nat)] w (OkP w b g L' (.string (str M))):=by
 have H:=A h;obtain⟨p,c,h1,h2,_,_⟩:=id h.left;clear h;have HN:=A hr;have HB:=A hb;clear hr hb;go_enter func92,ntmps92
 go_wp2_with(first
  | (go_at_call 43;(with_reducible refine(Kr H.o HB.o HN.o).mono ?_);rintro e w1 ⟨p',c',rfl,k0,k1,k2,k3,k4,k5⟩;have hcv:=P0 c' k1 k0;have K:=A (And.intro k4 k5);clear k0 k1 k2 k3 k4 k5))
 go_ret
 exact⟨rfl,K.o.1,K.o.2⟩
def C4(h:N w b g L er)(hn:er≠0):Calls prog 94 #[.pointer (some ⟨b,0,none⟩)] w (Qj w b g L (.bool false)):=by
 have H:=A h;obtain⟨p,c,h1,h2,_,_⟩:=id h.left;clear h;have HN:=A hn;clear hn;go_enter func94,ntmps94
 go_wp2_with(first
  | (go_at_call 87;(with_reducible refine(fg H.o HN.o).mono ?_);rintro e w1 ⟨rfl,rfl⟩))
 go_ret
 exact⟨er,HN.o,rfl,H.o,jy.refl _ _⟩
def xk(h:N w b g [] 0):Calls prog 94 #[.pointer (some ⟨b,0,none⟩)] w (Qj w b g [] (.bool false)):=by
 have H:=A h;obtain⟨p,c,h1,h2,_,_⟩:=id h.left;have h1:w.cell? ⟨b,0,none⟩=some (.slice p 0 c):=h1;clear h;go_enter func94,ntmps94
 go_wp2_with(first
  | (go_at_call 87;(with_reducible refine(kf H.o).mono ?_);rintro e w1 ⟨rfl,rfl⟩)
  | (go_at_call 88;(with_reducible refine(j6 H.o _).mono ?_);rintro e w1 ⟨rfl,h1,h2⟩;have H1:=A h1;have H2:=A h2;clear h1 h2))
 go_ret
 exact⟨_,C,rfl,H1.o,H2.o⟩
def front(h:N w b g (x::L') 0):∃g o c,w.cell? ⟨b,0,none⟩=some (.slice (some ⟨g,o,none⟩) (L'.length+1) c)/\w.cell? ⟨g,o,none⟩=some (.int .u8 (x:Nat))/\x<256/\(L'.length:Int)+1<=(c:Int):=by
 obtain⟨p,c,h1,h2,h3,a⟩:=h.left;obtain⟨g,o,rfl,hc⟩:=h3.2 Oc;exact⟨g,o,c,h1,hc 0 x rfl,h3.1 x LG,by have:L'.length+1<=c:=h2;omega⟩
def Py(h:N w b g (x::L') 0)(hx:1<x):Calls prog 94 #[.pointer (some ⟨b,0,none⟩)] w (Qj w b g (x::L') (.bool false)):=by
 have H:=A h;obtain⟨g,o,c,h1,h2,h3,h4⟩:=front h;have hd:decide ((1:Int)<(x:Int))=true:=Lx I;have hz:(((L'.length:Int)+1)==0)=false:=by simp;omega
 clear h;go_enter func94,ntmps94
 go_wp2_with(first
  | (go_at_call 87;(with_reducible refine(kf H.o).mono ?_);rintro e w1 ⟨rfl,rfl⟩)
  | (go_at_call 88;(with_reducible refine(j6 H.o _).mono ?_);rintro e w1 ⟨rfl,h1,h2⟩;have H1:=A h1;have H2:=A h2;clear h1 h2))
 go_ret
 exact⟨_,C,rfl,H1.o,H2.o⟩
def zfb(h:N w b g (x::L') 0):Calls prog 90 #[.pointer (some ⟨b,0,none⟩),.int .i64 1] w (zcD w b g (x::L') 0 1):=Qp (n:=1) h Oc
def Gt(h:N w b g (x::L') 0)(hx:x<=1):Calls prog 94 #[.pointer (some ⟨b,0,none⟩)] w (OkP w b g L' (.bool ((x:Int)==1))):=by
 have H:=A h;obtain⟨g,o,c,h1,h2,h3,h4⟩:=front h;have hd:decide ((1:Int)<(x:Int))=false:=LC I;have hz:(((L'.length:Int)+1)==0)=false:=by simp;omega
 clear h;go_enter func94,ntmps94
 go_wp2_with(first
  | (go_at_call 87;(with_reducible refine(kf H.o).mono ?_);rintro e w1 ⟨rfl,rfl⟩)
  | (go_at_call 88;(with_reducible refine(jh _).mono ?_);rintro e w1 ⟨rfl,rfl⟩)
  | (go_at_call 90;(with_reducible refine(zfb H.o).mono ?_);rintro e w2 ⟨p',c',rfl,t1,t2,t3,t4,t5⟩;obtain⟨g',o',rfl,q0⟩:=t1.2 Oc;have hq:w2.cell? ⟨g',o',none⟩=some (.int .u8 (x:Nat)):=q0 0 x rfl;clear q0;have T:=A (And.intro t4 t5);clear t1 t2 t3 t4 t5))
 go_ret
 exact⟨rfl,T.o.1,T.o.2⟩
end
end RD
end
section
open TR
namespace RD
def wu:∀(l:Eb) (v k:Nat) {r:Nat×Nat},num v k l=some r->r.1<18446744073709551616
 | [],_,_,_,h=>by cases h
 | b::l,v,k,r,h=>by
  rw[num.eq_2]at h;split at h
  .cases h
  .split at h
   .cases h;show v*128+b % 128<_;omega
   .exact wu l _ _ h
def CL(d:u<18446744073709551616):bits .and .u64 (u:Int) 1=((u % 2:Nat):Int):=by
 have:=bits_mask .u64 64 C (λn e h1=>u64_in n I) 1 C (u:Int) I I;have c:((2:Int) ^ 1-1)=1:=by decide
 have a:((2:Int) ^ 1)=2:=by decide
 rw[c,a]at this;rw[this];omega
def unzig_odd(a:u<18446744073709551616)(h:(bits .and .u64 (u:Int) 1==1)=true):unzig u = -((u:Int) / 2)-1:=by
 rw[CL a,Ll]at h;unfold unzig;rw[Y I];omega
def unzig_even(a:u<18446744073709551616)(h:(bits .and .u64 (u:Int) 1==1)=false):unzig u=(u:Int) / 2:=by
 rw[CL a,beq_eq_false_iff_ne]at h;unfold unzig;rw[O I];omega
section
variable{w:Ea}{b g:Nat}{L:Eb}
def NU(h:N w b g L er)(hn:er≠0):Calls prog 93 #[.pointer (some ⟨b,0,none⟩),.int .i64 (-9223372036854775808),.int .i64 9223372036854775807] w (Qj w b g L (.int .i64 0)):=by
 have H:=A h;obtain⟨p,c,h1,h2,_,_⟩:=id h.left;clear h;have HN:=A hn;clear hn;go_enter func93,ntmps93
 go_wp2_with(first
  | (go_at_call 87;(with_reducible refine(fg H.o HN.o).mono ?_);rintro e w1 ⟨rfl,rfl⟩))
 go_ret
 exact⟨er,HN.o,rfl,H.o,jy.refl _ _⟩
def NT(h:N w b g L 0)(hn:num 0 0 L=none):Calls prog 93 #[.pointer (some ⟨b,0,none⟩),.int .i64 (-9223372036854775808),.int .i64 9223372036854775807] w (Qj w b g L (.int .i64 0)):=by
 have H:=A h;obtain⟨p,c,h1,h2,_,_⟩:=id h.left;clear h;have HN:=A hn;clear hn;go_enter func93,ntmps93
 go_wp2_with(first
  | (go_at_call 87;(with_reducible refine(kf H.o).mono ?_);rintro e w1 ⟨rfl,rfl⟩)
  | (go_at_call 88;(with_reducible refine(jh _).mono ?_);rintro e w1 ⟨rfl,rfl⟩)
  | (go_at_call 88;(with_reducible refine(j6 H.o _).mono ?_);rintro e w1 ⟨rfl,h1,h2⟩;have H1:=A h1;have H2:=A h2;clear h1 h2)
  | (go_at_call 89;(with_reducible refine(Un H.o HN.o).mono ?_);rintro e w1 ⟨rfl,rfl⟩))
 go_ret
 exact⟨_,C,rfl,H1.o,H2.o⟩
def NS(h:N w b g L 0)(hn:num 0 0 L=some (u,n)):Calls prog 93 #[.pointer (some ⟨b,0,none⟩),.int .i64 (-9223372036854775808),.int .i64 9223372036854775807] w (OkP w b g (L.drop n) (.int .i64 (unzig u))):=by
 have H:=A h;obtain⟨p,c,h1,h2,_,_⟩:=id h.left;clear h;have HN:=A hn;have hle:=Xo _ _ _ hn;have hu:=wu _ _ _ hn;have hz:((n:Int)==0)=false:=by simp;have:=hle.1;omega
 have HLE:RowKit.Hid (n<=L.length):=A (by have:=hle.2;omega);have e1:decide (-((u:Int) / 2)-1 < -9223372036854775808)=false:=LC I;have e2:decide ((9223372036854775807:Int) < -((u:Int) / 2)-1)=false:=LC I;have e3:decide ((u:Int) / 2 < -9223372036854775808)=false:=LC I;have e4:decide ((9223372036854775807:Int)<(u:Int) / 2)=false:=LC I;clear hn hle;go_enter func93,ntmps93
 go_wp2_with(first
  | (go_at_call 87;(with_reducible refine(kf H.o).mono ?_);rintro e w1 ⟨rfl,rfl⟩)
  | (go_at_call 88;(with_reducible refine(jh _).mono ?_);rintro e w1 ⟨rfl,rfl⟩)
  | (go_at_call 89;(with_reducible refine(QU H.o HN.o).mono ?_);rintro e w1 ⟨rfl,rfl⟩)
  | (go_at_call 90;(with_reducible refine(Qp H.o HLE.o).mono ?_);rintro e w2 ⟨p',c',rfl,t1,t2,t3,t4,t5⟩;have T1:=A t1;have T2:=A t2;have T3:=A t3;have T:=A (And.intro t4 t5);clear t1 t2 t3 t4 t5))
 .rename_i hh;have hU:=A (unzig_odd hu hh);clear hh;go_ret
  exact⟨(by rw[hU.o];rfl),T.o.1,T.o.2⟩
 .rename_i hh;have hU:=A (unzig_even hu hh);clear hh;go_ret
  exact⟨(by rw[hU.o];rfl),T.o.1,T.o.2⟩
def TL(h:N w b g L 0)(a:bc L=none):Calls prog 93 #[.pointer (some ⟨b,0,none⟩),.int .i64 (-9223372036854775808),.int .i64 9223372036854775807] w (Qj w b g L (.int .i64 0)):=by
 unfold bc at a;split at a
 .rename_i hn;exact NT h hn
 .cases a
def tK(h:N w b g L 0){v:Int}(a:bc L=some (v,L')):Calls prog 93 #[.pointer (some ⟨b,0,none⟩),.int .i64 (-9223372036854775808),.int .i64 9223372036854775807] w (OkP w b g L' (.int .i64 v)):=by
 unfold bc at a;split at a
 .cases a
 .rename_i u n hn;cases a;exact NS h hn
def M4(h1:∀a,p=some a->m<=a.block)(h2:∀a,p=some a->a.block<n)(c:m<=n):∃g,m<=g/\g≠n/\g≠n+1/\∀a,p=some a->a.block=g:=by
 cases p with
 | none=>exact⟨n+2,I,I,I,λa ha=>(by cases ha)⟩
 | some a=>exact⟨a.block,h1 a rfl,by have:=h2 a rfl;omega,by have:=h2 a rfl;omega,λx hx=>by cases hx;rfl⟩
def zdJ{w:Ea}(e:g≠w.heap.size)(hs:∀a,p=some a->a.block=g)(hi:In w p L)(hc:L.length<=c)(hlen:L.length<=100000):N (w.alloc (.cells #[.slice p L.length c,.int .i64 0] 176)) w.heap.size g L 0:=by
 have d:(w.alloc (.cells #[.slice p L.length c,.int .i64 0] 176)).heap[w.heap.size]?=some (.cells #[.slice p L.length c,.int .i64 0] 176 (0,0)):=heap_alloc_new w _;refine⟨⟨p,c,?_,hc,ym hi (zc w _),hs⟩,e,?_,?_,?_,hlen⟩
 .unfold World.cell?;rw[d];rfl
 .unfold World.cell?;rw[d];rfl
 .unfold World.frozen?;rw[d];rfl
 .unfold World.frozen?;rw[d];rfl
def Hw(w:Ea)(L:Eb)(e:Ew)(w2:Ea):Prop:=∃b g,e = .returned (.pointer (some ⟨b,0,none⟩))/\w.heap.size<=b/\w.heap.size<=g/\g≠w2.heap.size/\N w2 b g L 0/\Grown w w2/\Ty w2 b
def V9(hL:In w p L)(hlen:L.length<=100000):Calls prog 40 #[.slice p L.length c] w (Hw w L):=by
 have HL:=A hL;have HE:=A hlen;clear hL hlen;go_enter func40,ntmps40;go_wp2_with(go_at_call 18;(with_reducible refine(cM HL.o HE.o).mono ?_);rintro e w1 ⟨p',c',rfl,k1,k2,k3,k4,k5⟩;have K5:=A k5;have K1:=A k1;have K2:=A k2;have K3:=A k3;have K4:=A k4;clear k1 k2 k3 k4 k5)
 go_ret
 obtain⟨g,g1,g2,g4,g3⟩:=M4 K4.o K5.o K1.o.size;exact⟨w1.heap.size,g,rfl,K1.o.size,g1,by unfold World.alloc;rw[Array.size_push];exact g4,zdJ g2 g3 K3.o K2.o HE.o,K1.o.trans' (zc w1 _),_,_,heap_alloc_new w1 _⟩
end
end RD
end
section
open Go.AuditPlain(put qf)
namespace RD
def jT:hi 0=[]:=by rw[hi];simp
def Vl(h:u≠0):hi u=hi (u / 128)++[u % 128+128]:=by rw[hi];simp[h]
def MS{k:Nat}(h1:¬(k=0/\x=128))(h2:v<=144115188075855871)(h3:¬x<128):num v k (x::l)=num (v*128+x % 128) (k+1) l:=by
 rw[num.eq_2,O I,O h3]
def MT{k:Nat}(h1:¬(k=0/\x=128))(h2:v<=144115188075855871)(h3:x<128):num v k (x::l)=some (v*128+x % 128,k+1):=by
 rw[num.eq_2,O I,Y h3]
def oG(h:(hi u).length=0):u=0:=by
 by_cases a:u=0
 .exact a
 .rw[Vl a]at h;simp at h
def zdF:∀(u:Nat) (l:Eb),u<=144115188075855871->num 0 0 (hi u++l)=num u (hi u).length l:=by
 intro u
 induction u using Nat.strongRecOn with
 | ind u a=>
  intro l b;by_cases h:u=0
  .subst h;rw[jT];rfl
  .have e:(hi u).length=(hi (u / 128)).length+1:=by rw[Vl h,Lm];rfl
   rw[e,Vl h,Ae,a (u / 128) (div_lt_self (AZ h) C) _ I];show num (u / 128) (hi (u / 128)).length ((u % 128+128)::l)=_;rw[MS (λhh=>?_) I I]
   .congr 1
    omega
   .have:=oG hh.1;omega
def oe(hv:v<18446744073709551616)(l:Eb):num 0 0 (put v++l)=some (v,(put v).length):=by
 unfold put;rw[Ae,zdF _ _ I];show num (v / 128) (hi (v / 128)).length (v % 128::l)=_;rw[MT I I I,Lm];congr 2;omega
def uint_put(hv:v<=m)(hm:m<18446744073709551616)(l:Eb):uintR m (put v++l)=some (v,l):=by
 unfold uintR;rw[oe I];simp[hv]
def QE{s:Eb}(hs:s.length<=m)(hm:m<=1000000)(l:Eb):jF m (zm s++l)=some (s,l):=by
 unfold jF zm;rw[Ae,oe I];simp only[Lm];rw[Y ⟨hs,I⟩,drop_left,take_left];congr 2;rw[<- Ae,drop_append_of_le_length Oc];rw[drop_of_length_le Oc];rfl
def TH{n:Int}(hn:-9223372036854775808<=n/\n<=9223372036854775807)(l:Eb):bc (qs n++l)=some (n,l):=by
 unfold bc qs;have a:zig n<18446744073709551616:=by unfold zig;split<;>omega
 rw[oe a];have:unzig (zig n)=n:=by unfold unzig zig;split<;>split<;>omega
 simp[this]
def ua(b:Bool)(l:Eb):cJ (zT b++l)=some (b,l):=by cases b<;>rfl
end RD
end
section
open TR
open Go.AuditPlain(put qf)
namespace RD
def VK(l:Eb):List Value:=l.map λn=>.int .i64 (n:Nat)
def kQ(l:Eb):(VK l).length=l.length:=by unfold VK;rw[Ls]
def fO(l:Eb)(n:Nat):VK (l++[n])=VK l++[.int .i64 (n:Nat)]:=by unfold VK;rw[Az];rfl
def ki(B:Nat)(w:Ea)(v:Ei)(l:Eb):Prop:=
 (l=[]->v = .slice none 0 0)/\(l≠[]->∃x:Nat×Nat×Nat,v = .slice (some ⟨x.1,x.2.1,none⟩) l.length (l.length+x.2.2)/\zx prog w x 3 (VK l)/\B<=x.1)
def under36:Tryz.prog.underlying 36=some (.slice 3):=U
def Sg(w:Ea){ops:Ep}{rest:Er}{o:Oper}{a:Act}{Q:Eo}(s x:Ev)(b:Nat){B:Nat}
  (hg:o.guard=none) (hop:o.op=Op.call { callee:=Callee.builtin Builtin.append,args:=#[s,x],argTypes:=#[36,36] }) (hrows:ki B w (a.eval s) l) (few:l.length<=1000) (hB:B<=w.heap.size)
  (hx:a.eval x = .slice (some ⟨b,0,none⟩) 1 1) (hc0:w.cell? ⟨b,0,none⟩=some (.int .i64 (n:Nat)))
  (hK:∀q c w',ki B w' (.slice (some q) (l.length+1) c) (l++[n])->(∀i,i<B->w'.heap[i]?=w.heap[i]?)->w.heap.size<=w'.heap.size->w'.tape=w.tape->w'.os=w.os->w'.output=w.output->wpList prog ops Q rest (a.put o.dst (.slice (some q) (l.length+1) c)) w') :
  wpList prog ops Q (o::rest) a w:=by
 obtain⟨i,hi⟩:∃i,Tryz.prog.info? 3=some i:=LM.1 U;have r:(Tryz.prog.info? 3).map (·.size)=some 1:=U;have k2:(Tryz.prog.info? 3).map (λi=>Nat.ble i.bytes 1000)=some true:=U;have k3:((Tryz.prog.info? 3).bind (·.zero)).map (λz=>z.cells.size)=some 1:=U;rw[hi]at r k2 k3;have r:i.size=1:=Aa r;have k2:i.bytes<=1000:=Nat.ble_eq.mp (Aa k2);obtain⟨z,T,t⟩:=LU.1 k3;have T:i.zero=some z:=T;have H:(l.length+1)*i.bytes<=140737488355328:=Lj (Nat.mul_le_mul (show l.length+1<=1001 by omega) k2) C;have P:l.length+1<=maxLen:=by unfold maxLen;omega
 have hc:∀(j:Nat) (u:Ei),([.int .i64 (n:Nat)]:List Value)[j]?=some u->w.cell? ((⟨b,0,none⟩:Addr).add j)=some u:=by
  intro j u d;rw[Addr.add_lit]
  cases j with
  | zero=>cases d;exact hc0
  | succ j=>cases d
 have k:∀u∈([.int .i64 (n:Nat)]:List Value),u.oneCell'=true:=by
  intro u hu;rw[Lu]at hu;subst hu;rfl
 have grown:∀v' w',w'.ownsRow w.heap.size 3 1 v' (l.length+1) (VK l++[.int .i64 (n:Nat)])->w.grownBy w' none->wpList prog ops Q rest (a.put o.dst v') w':=by
  intro v' w' ho e;obtain⟨_,⟨_,h0⟩|⟨g,cap,cur,rfl,h1,h2,h3,_,h5,h6⟩⟩:=ho
  .omega
  .refine hK _ _ w' ⟨λh=>Ld (congrArg List.length h) Oc,λ_=>⟨(g,0,cap-(l.length+1)),?_,⟨cur,(0,0),h2,?_,λi _ h=>I,Nat.dvd_zero _,λj d=>?_⟩,Lj hB h1⟩⟩ (λc hc=>e.block c I Oc) e.size e.tape e.os e.output
   .rw[Lm,show l.length+[n].length+(cap-(l.length+1))=cap by simp;omega];rfl
   .rw[kQ,XN,Lm,h5];show 0+(l.length+1)+(cap-(l.length+1))*1<=cap*1;omega
   .rw[fO,<- h6]at d ⊢;rw[Lz,getElem?_take,Y (by rw[Ar]at d;omega),LV]
 by_cases he:l=[]
 .subst he;have hs:a.eval s = .slice none 0 0:=hrows.1 rfl;exact wpList_append_grows w hg s x 36 hop 3 i z 1 i.bytes under36 hi T r rfl t C none 0 0 [] hs (λ_=>⟨rfl,rfl⟩) rfl (λb h=>by cases h) _ 1 1 _ hx rfl hc k C P H grown
 .obtain⟨y,hs,f,hyB⟩:=hrows.2 he;have p:=f;obtain⟨arr,fz,r1,r2,r3,r4,r5⟩:=p;rw[kQ,XN]at r2;have hold:∀(j:Nat) (u:Ei),(VK l)[j]?=some u->w.cell? ⟨y.1,y.2.1+j,none⟩=some u:=λj u d=>TR.cell_of_row f d;refine wpList_append_arg w hg s x 36 hop 3 i z 1 i.bytes under36 hi T r rfl t C y.1 y.2.1 l.length (l.length+y.2.2) (VK l) hs (by rw[kQ,Ak]) hold _ 1 1 _ hx rfl hc k (λhr j d=>?_) P H (λhr=>?_) λ_=>grown
  .have d:j<1:=d;have v:y.2.1+l.length*1+j<arr.size:=by omega
   refine⟨?_,?_⟩
   .unfold World.cell?;rw[r1];show(arr[y.2.1+l.length*1+j]?).isSome=true;rw[Av v];rfl
   .unfold World.frozen?;rw[r1];have:=r3 _ v;show(decide (fz.1<=y.2.1+l.length*1+j)&&decide (y.2.1+l.length*1+j<fz.2))=false;rw[AG,LH,LH];omega
  .have hsz:y.2.1+l.length*1+([.int .i64 (n:Nat)]:List Value).length<=arr.size:=by show y.2.1+l.length*1+1<=arr.size;omega
   obtain⟨m,g1,g2,g3,g4⟩:=jl y.1 [.int .i64 (n:Nat)] (y.2.1+l.length*1) w arr 3 fz r1 hsz;refine hK _ _ _ ⟨λh=>Ld (congrArg List.length h) Oc,λ_=>⟨(y.1,y.2.1,y.2.2-1),?_,⟨m,fz,g1,?_,λi hi=>r3 i I,r4,λj d=>?_⟩,hyB⟩⟩ (λc hc=>?_) ?_ (kz _ _ _ _) ?_ ?_
   .rw[Lm,show l.length+[n].length+(y.2.2-1)=l.length+y.2.2 by simp;omega];rfl
   .rw[kQ,XN,Lm,g2];show y.2.1+(l.length+1)+(y.2.2-1)*1<=arr.size;omega
   .rw[fO];rw[kQ,Lm]at d;have d:j<l.length+1:=d;show m[y.2.1+j]?=_;rcases LD j l.length with h|h
    .rw[Ao (by rw[kQ];exact h),g4 _ I];exact r5 j (by rw[kQ];exact h)
    .have hjl:j=l.length:=by omega
     subst hjl;rw[Aj (by rw[kQ];exact Lh _),kQ,Nat.sub_self];have:=g3 0 Nat.zero_lt_one;rw[Nat.add_zero,Ak]at this;exact this
   .refine heap_setCells_other w _ _ _ (LK hc hB) I
   .rw[kA];exact Lh _
   .exact os_setCells _ _ _ _
   .exact output_setCells _ _ _ _
end RD
end
section
open TR
open Go.AuditPlain(put)
namespace RD
def N.other{L:Eb}(h:N w b g L e)(hb:w2.heap[b]?=w.heap[b]?)(j:w2.heap[g]?=w.heap[g]?):N w2 b g L e:=by
 obtain⟨p,c,h1,h2,h3,f⟩:=h.left;refine⟨⟨p,c,by rw[cell?_of_block (a:=⟨b,0,none⟩) hb];exact h1,h2,⟨h3.1,λhn=>?_⟩,f⟩,h.sep,by rw[cell?_of_block (a:=⟨b,1,none⟩) hb];exact h.err,by rw[frozen?_of_block (a:=⟨b,0,none⟩) hb];exact h.fz0,by rw[frozen?_of_block (a:=⟨b,1,none⟩) hb];exact h.fz1,h.few⟩;obtain⟨b',o,rfl,hc⟩:=h3.2 hn;refine⟨b',o,rfl,λi x hi=>?_⟩;have d:b'=g:=f _ rfl;subst d;rw[cell?_of_block (a:=⟨b',o+i,none⟩) j];exact hc i x hi
def YU{B:Nat}{v:Ei}(h:ki B w v l)(hb:b<B)(k:jy b w w2):ki B w2 v l:=by
 refine⟨h.1,λhn=>?_⟩;obtain⟨x,e,a,hx⟩:=h.2 hn;exact⟨x,e,@zx.heap unk0 _ _ _ _ _ _ a (k.old _ (zx.lt a) I),hx⟩
def fM{B:Nat}{v:Ei}(h:ki B w v l)(k:Grown w w2):ki B w2 v l:=by
 refine⟨h.1,λhn=>?_⟩;obtain⟨x,e,a,hx⟩:=h.2 hn;exact⟨x,e,qi k a,hx⟩
def zbi{L:Eb}(h:N w b g L 0)(a:uintR 63 L=some (v,L')):Calls prog 41 #[.pointer (some ⟨b,0,none⟩),.int .i64 63] w (OkP w b g L' (.int .i64 (v:Nat))):=Km h C a
def zdE{L:Eb}(h:N w b g L 0)(a:uintR 63 L=some (v,L')):Calls prog 91 #[.pointer (some ⟨b,0,none⟩),.int .i64 63] w (OkP w b g L' (.int .i64 (v:Nat))):=aQ h C a
def mw{B:Nat}{v:Ei}(h:ki B w v (l.take j))(a:j=l.length):ki B w v l:=by
 rwa[a,take_length]at h
def Fy{rest:Eb}(h:N w b g (AuditPlain.qf (l.drop j)++rest) 0)(a:j=l.length):N w b g rest 0:=by
 rw[a,drop_length]at h;exact h
def ME{rest:Eb}(hx:l[j]?=some x)(a:x<=63):uintR 63 (AuditPlain.qf (l.drop j)++rest)=some (x,AuditPlain.qf (l.drop (j+1))++rest):=by
 have hd:l.drop j=x::l.drop (j+1):=by
  have b:=(LL.1 hx).1;rw[drop_eq_getElem_cons b];congr 1;rw[Ly b]at hx;exact Aa hx
 rw[hd];show uintR 63 ((put x++AuditPlain.qf (l.drop (j+1)))++rest)=_;rw[Ae];exact uint_put a C _
def uE(w:Ea)(n:Nat):(w.alloc (.cells #[.int .i64 (n:Nat)] 3)).cell? ⟨w.heap.size,0,none⟩=some (.int .i64 (n:Nat)):=by
 unfold World.cell?;rw[heap_alloc_new w _];rfl
def rn(w:Ea){ops:Ep}{rest:Er}{o:Oper}{a:Act}{Q:Eo}(s x:Ev)(b:Nat){B:Nat}
  (hg:o.guard=none) (hop:o.op=Op.call { callee:=Callee.builtin Builtin.append,args:=#[s,x],argTypes:=#[36,36] }) (hrows:ki B w (a.eval s) l) (few:l.length<=1000) (hB:B<=w.heap.size)
  (hx:a.eval x = .slice (some ⟨b,0,none⟩) 1 1) (hc0:w.cell? ⟨b,0,none⟩=some (.int .i64 (n:Nat))) (hm:l.length=m)
  (hK:∀q c w',ki B w' (.slice (some q) (m+1) c) (l++[n])->(∀i,i<B->w'.heap[i]?=w.heap[i]?)->w.heap.size<=w'.heap.size->w'.tape=w.tape->w'.os=w.os->w'.output=w.output->wpList prog ops Q rest (a.put o.dst (.slice (some q) (m+1) c)) w') :
  wpList prog ops Q (o::rest) a w:=by
 subst hm;exact Sg w s x b hg hop hrows few hB hx hc0 hK
def mv{B:Nat}{v:Ei}(h:ki B w v (l.take j++[x]))(hx:l[j]?=some x):ki B w v (l.take (j+1)):=by
 have a:=(LL.1 hx).1
 have e:l.take (j+1)=l.take j++[x]:=by
  rw[take_add_one,hx];rfl
 rw[e];exact h
def lZ{u w':Ea}(h:jy b u w)(k:(∀i,i<u.heap.size->w'.heap[i]?=w.heap[i]?)/\w.heap.size<=w'.heap.size/\w'.tape=w.tape/\w'.os=w.os/\w'.output=w.output):jy b u w':=
 ⟨λc hc hn=>by rw[k.1 c hc,h.old c hc hn],Lj h.size k.2.1,k.2.2.1.trans h.tape,k.2.2.2.1.trans h.os,k.2.2.2.2.trans h.output,λarr t fz a=>by obtain⟨d,h1⟩:=h.ty arr t fz a;exact⟨d,by rw[k.1 b (LO.1 a).1];exact h1⟩⟩
def zkJ(w0:Ea)(b g:Nat)(l rest:Eb)(k:Nat)(out i:Ei)(w:Ea):Prop:=∃(j:Nat) (q:Ed) (c:Nat),j+k=l.length/\i = .int .i64 j/\out = .slice q j c/\ki w0.heap.size w out (l.take j)/\N w b g (AuditPlain.qf (l.drop j)++rest) 0/\jy b w0 w
def zeQ(w0:Ea)(b g:Nat)(l rest:Eb)(e:Ew)(w:Ea):Prop:=∃v,e = .returned v/\ki w0.heap.size w v l/\N w b g rest 0/\jy b w0 w
def vL{rest:Eb}(h:N w b g (numbers l++rest) 0)(hg:g<w.heap.size)(hl:l.length<=63)(h63:∀n∈l,n<=63):Calls prog 95 #[.pointer (some ⟨b,0,none⟩)] w (zeQ w b g l rest):=by
 have H:=A h;have HG:=A hg;have HL:=A hl;have H63:=A h63;have hc:uintR 63 (numbers l++rest)=some (l.length,AuditPlain.qf l++rest):=by unfold numbers;rw[Ae];exact uint_put hl C _
 have HC:=A hc;clear h hg hl h63 hc;go_enter func95,ntmps95;go_wp2_with(go_at_call 41;(with_reducible refine(zbi H.o HC.o).mono ?_);rintro e w1 ⟨rfl,h1,h2⟩;have H1:=A h1;have H2:=A h2;clear h1 h2)
 .have hbB:RowKit.Hid (b<w.heap.size):=A (block_lt_of_cell? w _ H.o.err);go_loopg [3,6] l.length (λk out i wr=>zkJ w b g l rest k out i wr)
  case atStart=>exact⟨0,none,0,I,rfl,rfl,⟨λ_=>rfl,λh=>Ld rfl h⟩,H1.o,H2.o⟩
  case round=>
   obtain⟨j,q,c,hj,rfl,rfl,hI,hA,hO⟩:=hrel;have HI:=A hI;have HA:=A hA;have HO:=A hO;clear hI hA hO
   cases gk with
   | zero=>
    have hjm:¬((j:Int)<(l.length:Int)):=by omega
    have hjl:RowKit.Hid (j=l.length):=A I;go_wp2;go_ret
    exact⟨.slice q j c,rfl,mw HI.o hjl.o,Fy HA.o hjl.o,HO.o⟩
   | succ k=>
    have hjm:(j:Int)<(l.length:Int):=by omega
    obtain⟨x,hx⟩:∃x,l[j]?=some x:=⟨_,Ly I⟩
    have hr:=ME (rest:=rest) hx (H63.o x (LX hx));have HR:=A hr;have HX:=A hx;clear hr hx;have few:RowKit.Hid ((l.take j).length<=1000):=A (by rw[Ar];have:=HL.o;omega);have hjt:(l.take j).length=j:=by rw[Ar];omega
    have HJ:=A hjt;clear hjt;have hw64:RowKit.wrap64 ((j:Int)+1)=(j:Int)+1:=by unfold RowKit.wrap64;have:=HL.o;omega
    go_wp2_with(first
     | (go_at_call 91;(with_reducible refine(zdE HA.o HR.o).mono ?_);rintro e w2 ⟨rfl,h1,h2⟩;have A1:=A h1;have A2:=A h2;clear h1 h2)
     | (at_builtin;refine rn _ _ _ w2.heap.size rfl rfl (fM (YU HI.o hbB.o A2.o) (zc _ _)) few.o (Lj (Lj HO.o.size A2.o.size) (zc _ _).size) rfl (uE w2 _) HJ.o ?_;intro q' c' w3 k1 k2 k3 k4 k5 k6;have K1:=A k1;have K:=A (And.intro k2 (And.intro k3 (And.intro k4 (And.intro k5 k6))));clear k1 k2 k3 k4 k5 k6))
    go_roundg k
    case measure=>omega
    case rel=>exact⟨j+1,some q',c',I,(by rw[hw64];rfl),rfl,mv K1.o HX.o,(A1.o.grown (zc _ _)).other (K.o.1 b hbB.o) (K.o.1 g HG.o),lZ (HO.o.trans (A2.o.trans (jy.zH (zc _ _)))) K.o⟩
end RD
end
section
open TR
namespace RD
def jP(l:Eb):(qe l).length=l.length:=by unfold qe;rw[Ls]
def gR(l m:Eb):qe (l++m)=qe l++qe m:=by unfold qe;rw[Az]
def jU(B:Nat)(w:Ea)(v:Ei)(l:Eb):Prop:=
 (l=[]->v = .slice none 0 0)/\(l≠[]->∃x:Nat×Nat×Nat,v = .slice (some ⟨x.1,x.2.1,none⟩) l.length (l.length+x.2.2)/\zx prog w x 5 (qe l)/\B<=x.1)
def Sf(w:Ea){ops:Ep}{rest:Er}{o:Oper}{a:Act}{Q:Eo}(s x:Ev){off c0:Nat}{B:Nat}{M:Eb}
  (hg:o.guard=none) (hop:o.op=Op.call { callee:=Callee.builtin Builtin.append,args:=#[s,x],argTypes:=#[51,51] }) (hrows:jU B w (a.eval s) l) (few:l.length+M.length<=100000) (hM:M≠[]) (hB:B<=w.heap.size)
  (hx:a.eval x = .slice (some ⟨b,off,none⟩) M.length c0) (hc0:∀i y,M[i]?=some y->w.cell? ⟨b,off+i,none⟩=some (.int .u8 (y:Nat)))
  (hK:∀q c w',jU B w' (.slice (some q) (l.length+M.length) c) (l++M)->Je (a.eval s) w w'->wpList prog ops Q rest (a.put o.dst (.slice (some q) (l.length+M.length) c)) w') :
  wpList prog ops Q (o::rest) a w:=by
 obtain⟨i,hi⟩:∃i,Tryz.prog.info? 5=some i:=LM.1 U;have H:(Tryz.prog.info? 5).map (·.size)=some 1:=U;have k2:(Tryz.prog.info? 5).map (λi=>Nat.ble i.bytes 1000)=some true:=U;have k3:((Tryz.prog.info? 5).bind (·.zero)).map (λz=>z.cells.size)=some 1:=U;rw[hi]at H k2 k3;have H:i.size=1:=Aa H;have k2:i.bytes<=1000:=Nat.ble_eq.mp (Aa k2);obtain⟨z,hz,P⟩:=LU.1 k3;have hz:i.zero=some z:=hz;have t:(l.length+M.length)*i.bytes<=140737488355328:=Lj (Nat.mul_le_mul (show l.length+M.length<=100000 by omega) k2) C;have hMpos:0<M.length:=AV.2 hM;have v:l.length+M.length<=maxLen:=by unfold maxLen;omega
 have hc:∀(j:Nat) (u:Ei),(qe M)[j]?=some u->w.cell? ((⟨b,off,none⟩:Addr).add j)=some u:=by
  intro j u d;unfold qe at d;rw[Lw]at d;obtain⟨y,hy,rfl⟩:=LU.1 d;rw[Addr.add_lit];exact hc0 j y hy
 have n:∀u∈qe M,u.oneCell'=true:=by
  intro u hu;unfold qe at hu;obtain⟨y,_,rfl⟩:=Lv.1 hu;rfl
 have f:(qe M).length=M.length:=by unfold qe;rw[Ls]
 have grown:∀v' w',w'.ownsRow w.heap.size 5 1 v' (l.length+M.length) (qe l++qe M)->w.grownBy w' none->wpList prog ops Q rest (a.put o.dst v') w':=by
  intro v' w' ho k;obtain⟨_,⟨_,h0⟩|⟨g,cap,cur,rfl,h1,h2,h3,_,h5,h6⟩⟩:=ho
  .omega
  .refine hK _ _ w' ⟨λh=>Ld (AW.1 h).2 hM,λ_=>⟨(g,0,cap-(l.length+M.length)),?_,⟨cur,(0,0),h2,?_,λi _ h=>I,Nat.dvd_zero _,λj d=>?_⟩,Lj hB h1⟩⟩ ⟨λc hc _=>k.block c hc Oc,k.size,k.tape,k.os,k.output⟩
   .rw[Lm,show l.length+M.length+(cap-(l.length+M.length))=cap by omega]
   .rw[jP,bV,Lm,h5];show 0+(l.length+M.length)+(cap-(l.length+M.length))*1<=cap*1;omega
   .rw[gR,<- h6]at d ⊢;rw[Lz,getElem?_take,Y (by rw[Ar]at d;omega),LV]
 by_cases he:l=[]
 .subst he;have hs:a.eval s = .slice none 0 0:=hrows.1 rfl;exact wpList_append_grows w hg s x 51 hop 5 i z 1 i.bytes under51 hi hz H rfl P C none 0 0 [] hs (λ_=>⟨rfl,rfl⟩) rfl (λb h=>by cases h) _ M.length c0 _ hx (by rw[f,Ak]) hc n (by show 0<0+M.length;omega) (by show 0+M.length<=maxLen;rw[Lz];rw[length_nil,Lz]at v;exact v) (by rw[length_nil]at t;exact t) grown
 .obtain⟨y,hs,m,hyB⟩:=hrows.2 he;have r:=m;obtain⟨arr,fz,r1,r2,r3,r4,r5⟩:=r;rw[jP,bV]at r2;have hold:∀(j:Nat) (u:Ei),(qe l)[j]?=some u->w.cell? ⟨y.1,y.2.1+j,none⟩=some u:=λj u d=>TR.cell_of_row m d;refine wpList_append_arg w hg s x 51 hop 5 i z 1 i.bytes under51 hi hz H rfl P C y.1 y.2.1 l.length (l.length+y.2.2) (qe l) hs (by rw[jP,Ak]) hold _ M.length c0 _ hx (by rw[f,Ak]) hc n (λhr j d=>?_) v t (λhr=>?_) λ_=>grown
  .have d:j<M.length:=by rw[f]at d;exact d
   have T:y.2.1+l.length*1+j<arr.size:=by omega
   refine⟨?_,?_⟩
   .unfold World.cell?;rw[r1];show(arr[y.2.1+l.length*1+j]?).isSome=true;rw[Av T];rfl
   .unfold World.frozen?;rw[r1];have:=r3 _ T;show(decide (fz.1<=y.2.1+l.length*1+j)&&decide (y.2.1+l.length*1+j<fz.2))=false;rw[AG,LH,LH];omega
  .have hsz:y.2.1+l.length*1+(qe M).length<=arr.size:=by rw[f];omega
   obtain⟨p,g1,g2,g3,g4⟩:=jl y.1 (qe M) (y.2.1+l.length*1) w arr 5 fz r1 hsz;refine hK _ _ _ ⟨λh=>Ld (AW.1 h).2 hM,λ_=>⟨(y.1,y.2.1,y.2.2-M.length),?_,⟨p,fz,g1,?_,λi hi=>r3 i I,r4,λj d=>?_⟩,hyB⟩⟩ ⟨λc hc hne=>?_,?_,kz _ _ _ _,?_,?_⟩
   .rw[Lm,show l.length+M.length+(y.2.2-M.length)=l.length+y.2.2 by omega]
   .rw[jP,bV,Lm,g2];show y.2.1+(l.length+M.length)+(y.2.2-M.length)*1<=arr.size;omega
   .rw[gR];rw[jP,Lm]at d;show p[y.2.1+j]?=_;rcases LD j l.length with h|h
    .rw[Ao (by rw[jP];exact h),g4 _ I];exact r5 j (by rw[jP];exact h)
    .rw[Aj (by rw[jP];exact h),jP];have:=g3 (j-l.length) (by rw[f];omega);rw[show y.2.1+l.length*1+(j-l.length)=y.2.1+j by omega]at this;exact this
   .refine heap_setCells_other w _ _ _ hc λe=>hne _ _ _ hs e.symm
   .rw[kA];exact Lh _
   .exact os_setCells _ _ _ _
   .exact output_setCells _ _ _ _
structure Wr(B:Nat)(w:Ea)(b:Nat)(L:Eb):Prop where
 ex:∃p n c,zx prog w (b,0,0) 174 [.slice p n c]/\jU B w (.slice p n c) L/\n=L.length
 low:B<=b
structure Low(B:Nat)(w w2:Ea):Prop where
 old:∀c,c<B->w2.heap[c]?=w.heap[c]?
 size:w.heap.size<=w2.heap.size
 tape:w2.tape=w.tape
 os:w2.os=w.os
 output:w2.output=w.output
def Low.trans{B:Nat}{x z:Ea}(h:Low B x y)(k:Low B y z):Low B x z:=
 ⟨λc hc=>by rw[k.old c hc,h.old c hc],Lj h.size k.size,k.tape.trans h.tape,k.os.trans h.os,k.output.trans h.output⟩
def Low.zH{B:Nat}{x:Ea}(h:Grown x y)(a:B<=x.heap.size):Low B x y:=⟨λc hc=>h.old c I,h.size,h.tape,h.os,h.output⟩
def yj{v:Ei}{l:Ec}(h:zx prog w (b,0,0) t (v::l)):w.cell? ⟨b,0,none⟩=some v/\w.frozen? ⟨b,0,none⟩=false:=by
 refine⟨TR.cell_of_row h (j:=0) rfl,?_⟩;obtain⟨arr,fz,h1,h2,h3,_⟩:=h;unfold World.frozen?;rw[h1];have:=h3 0 (by simp at h2;omega);show(decide (fz.1<=0)&&decide (0<fz.2))=false;rw[AG,LH,LH];omega
def Cb{v x:Ei}(h:zx prog w (b,0,0) t [v]):zx prog (w.setCell ⟨b,0,none⟩ x) (b,0,0) t [x]:=by
 obtain⟨arr,fz,h1,h2,h3,c,d⟩:=h;have h2:0+1+0*qS prog t<=arr.size:=h2;refine⟨arr.setIfInBounds 0 x,fz,?_,?_,λi hi=>h3 i (by rw[AM]at hi;exact hi),c,λj a=>?_⟩
 .unfold World.setCell;show(w.heap.modify b _)[b]?=_;rw[AD,Y rfl];show Option.map _ w.heap[b]?=_;rw[show w.heap[b]?=_ from h1];rfl
 .rw[AM];exact h2
 .have a:j<1:=a;obtain rfl:j=0:=by omega
  show(arr.setIfInBounds 0 x)[0]?=_;rw[Array.getElem?_setIfInBounds_self,Y I];rfl
end RD
end
section
open TR
open Go.AuditPlain(put)
namespace RD
def DM{v:Ei}{L:Eb}{B:Nat}{c:Ec}(k:Je v w w2)(hb:jU B w v L)(a:zx prog w (b,0,0) t c)(f:t≠5):zx prog w2 (b,0,0) t c:=by
 refine @zx.heap unk0 _ _ _ _ _ _ a (k.Jl _ (zx.lt a) λp n m e hp=>?_);by_cases d:L=[]
 .rw[hb.1 d]at e;cases e
 .obtain⟨x,g,hx,_⟩:=hb.2 d;rw[g]at e;cases e;exact zx.ne a hx f hp.symm
def DN{v:Ei}{L:Eb}{B:Nat}(k:Je v w w2)(hb:jU B w v L)(f:B<=w.heap.size):Low B w w2:=by
 refine⟨λc hc=>k.Jl c I λp n m e hp=>?_,k.size,k.tape,k.os,k.output⟩;by_cases a:L=[]
 .rw[hb.1 a]at e;cases e
 .obtain⟨x,d,_,hx⟩:=hb.2 a;rw[d]at e;cases e;have hp:x.1=c:=hp;omega
def CJ{B:Nat}(v:Ei)(hb:B<=b):Low B w (w.setCell ⟨b,0,none⟩ v):=by
 have:=yk b 0 v w
 exact⟨λc hc=>by
  unfold World.setCell
  rw[AD,O (by show ¬b=c;omega)],this.size,this.tape,this.os,this.output⟩
def mT{B:Nat}{v a:Ei}{c:Ec}{L:Eb}(h:jU B w v L)(f:zx prog w (b,0,0) t c)(d:t≠5):jU B (w.setCell ⟨b,0,none⟩ a) v L:=by
 refine⟨h.1,λhn=>?_⟩;obtain⟨x,e,hx,g⟩:=h.2 hn;exact⟨x,e,@zx.heap unk0 _ _ _ _ _ _ hx ((yk b 0 a w).old _ (zx.lt hx) (λe=>zx.ne f hx d e.symm)),g⟩
def Zj{B:Nat}{L:Eb}(h:Wr B w b L)(g:Grown w w2):Wr B w2 b L:=by
 obtain⟨p,n,c,d,hb,hn⟩:=h.ex;exact⟨⟨p,n,c,qi g d,⟨hb.1,λa=>by obtain⟨x,e,hx,f⟩:=hb.2 a;exact⟨x,e,qi g hx,f⟩⟩,hn⟩,h.low⟩
def XU(B:Nat)(w:Ea)(b:Nat)(L:Eb)(e:Ew)(w2:Ea):Prop:=e = .returned (.tuple #[])/\Wr B w2 b L/\Low B w w2
def Fr(b:Nat)(w w2:Ea):Prop:=∀c,c<w.heap.size->c≠b->(∀a n m,w.cell? ⟨b,0,none⟩=some (.slice (some a) n m)->a.block≠c)->w2.heap[c]?=w.heap[c]?
def KF(B:Nat)(w:Ea)(b:Nat)(L:Eb)(e:Ew)(w2:Ea):Prop:=e = .returned (.tuple #[])/\Wr B w2 b L/\Low B w w2/\Fr b w w2
def zeb{u:Ea}{v x:Ei}(h:w.cell? ⟨b,0,none⟩=some v)(k:Je v w u):Fr b w (u.setCell ⟨b,0,none⟩ x):=λc hc hn hs=>by
 rw[(yk b 0 x u).old c (LK hc k.size) hn];exact k.Jl c hc λp n m e=>hs p n m (by rw[h,e])
def tY{u:Ea}{v:Ei}(h:w.cell? ⟨b,0,none⟩=some v)(g:Grown w u)(k:Fr b u w2):Fr b w w2:=λc hc hn hs=>by
 rw[k c (LK hc g.size) hn λa n m e=>hs a n m (by rw[h,<- e,zz h g]),g.old c hc]
def sr{B:Nat}{L M:Eb}{bq oq cq:Nat}(h:Wr B w b L)(hB:B<=w.heap.size)(hi:In w (some ⟨bq,oq,none⟩) M)(hne:M≠[])(hlen:L.length+M.length<=100000) :
  Calls prog 38 #[.pointer (some ⟨b,0,none⟩),.slice (some ⟨bq,oq,none⟩) M.length cq] w (KF B w b (L++M)):=by
 obtain⟨p,n,c,hr,hb,rfl⟩:=h.ex;have HL:=A h.low;have HR:=A hr;have HB:=A hb;have HBs:=A hB;have HNE:=A hne;have HLEN:=A hlen;have HC:=A (show ∀i y,M[i]?=some y->w.cell? ⟨bq,oq+i,none⟩=some (.int .u8 (y:Nat)) by obtain⟨b',o',e,hc⟩:=hi.2 hne;cases e;exact hc);obtain⟨h1,hf⟩:=yj hr;have H1c:=A h1;clear h hr hb hB hi hne hlen;go_enter func38,ntmps38;go_wp2_with(at_builtin;refine Sf _ _ _ rfl rfl HB.o HLEN.o HNE.o HBs.o rfl HC.o ?_;intro q' c' w3 k1 k2;have K1:=A k1;have K2:=A k2;have hr3:=DM k2 HB.o HR.o C;have HR3:=A hr3;obtain⟨h3,hf3⟩:=yj hr3;clear k1 k2 hr3)
 refine⟨rfl,_,results_none rfl _ _ _,rfl,⟨⟨_,_,_,Cb HR3.o,mT K1.o HR3.o C,by rw[Lm]⟩,HL.o⟩,(DN K2.o HB.o HBs.o).trans (CJ _ HL.o),zeb H1c.o K2.o⟩
def Cz{u:Ei}{L:Eb}(h:iz prog .u8 5 w w2 (str L) u n)(d:∀y∈L,y<256):∃b o c,u = .slice (some ⟨b,o,none⟩) L.length c/\In w2 (some ⟨b,o,none⟩) L/\L.length<=c/\w.heap.size<=b:=by
 obtain⟨x,arr,fz,_,hn⟩:=h;have a:(str L).size=L.length:=@qA unk0 L;refine⟨x.1,x.2.1,x.2.2,by rw[hn.is,a],⟨d,λ_=>⟨x.1,x.2.1,rfl,λi y hi=>?_⟩⟩,by rw[<- a];exact hn.cap,hn.new⟩
 have hc:(str L).data[i]?=some (UInt8.ofNat y):=by
  unfold str;rw[AB,Lw,hi];rfl
 have:=hn.cell i _ hc;unfold World.cell?;rw[hn.row];rw[toNat_ofNat',AA (d y (LX hi))]at this;exact this
def zgA:∀(u:Nat),∀y∈hi u,y<256:=by
 intro u
 induction u using Nat.strongRecOn with
 | ind u c=>
  by_cases h:u=0
  .subst h;rw[jT];intro y a;cases a
  .rw[Vl h];intro y a;rcases LJ.1 a with a|a
   .exact c _ (div_lt_self (AZ h) C) y a
   .rw[Lu]at a;omega
def yK:∀y∈put v,y<256:=by
 unfold put;intro y a;rcases LJ.1 a with a|a
 .exact zgA _ y a
 .rw[Lu]at a;omega
def eP(v:Nat):put v≠[]:=by unfold put;simp
def JI{v : Nat}(h : v < 34359738368) : (put v).length <= 5 := by
  have hlen : ∀(k u : Nat), u < 128 ^ k -> (hi u).length <= k := by
    intro k
    induction k with
    | zero => intro u a; have : u = 0 := by simpa using a
              subst this; rw[jT]; exact Lh _
    | succ k d =>
      intro u a;by_cases c : u = 0
      · subst c; rw[jT]; exact zero_le _
      · rw[Vl c, Lm]
        have := d (u / 128) (by rw[Nat.pow_succ] at a; omega);simp;omega
  unfold put;rw[Lm];have := hlen 4 (v / 128) I;simp;omega
def Bv{B:Nat}{L:Eb}(h:Wr B w b L):∃v,w.cell? ⟨b,0,none⟩=some v:=by
 obtain⟨p,n,c,a,_,_⟩:=h.ex;exact⟨_,(yj a).1⟩
def zgI{B:Nat}{L M:Eb}{p:Addr}(h:Wr B w b L)(k:Fr b w w2)(hi:In w (some p) M)(hn:M≠[])(h1:p.block≠b)(h2:∀a n m,w.cell? ⟨b,0,none⟩=some (.slice (some a) n m)->a.block≠p.block):In w2 (some p) M:=by
 refine⟨hi.1,λ_=>?_⟩;obtain⟨b',o,e,hc⟩:=hi.2 hn;cases e;refine⟨b',o,rfl,λi x hx=>?_⟩;have:=hc i x hx;rw[cell?_of_block (k b' (block_lt_of_cell? w _ this) h1 h2)];exact this
def ef{B:Nat}{u:Ea}{k:Nat}{L:Eb}(h:Wr B w b L)(g:Grown w u)(hq:w.heap.size<=k):k≠b/\∀a n m,u.cell? ⟨b,0,none⟩=some (.slice (some a) n m)->a.block≠k:=by
 obtain⟨p,n,c,i,hb,_⟩:=h.ex;have h1:=(yj i).1;have d:=block_lt_of_cell? w _ h1;have d:b<w.heap.size:=d;refine⟨I,λa n m e he=>?_⟩;rw[zz h1 g]at e;cases e;by_cases f:L=[]
 .have:=hb.1 f;cases this
 .obtain⟨x,e,hx,_⟩:=hb.2 f;cases e;have:=zx.lt hx;have he:x.1=k:=he;omega
section
variable{B:Nat}{w:Ea}{b:Nat}{L M:Eb}
def uint_w(h:Wr B w b L)(hB:B<=w.heap.size)(hv:v<34359738368)(hlen:L.length<=90000):Calls prog 36 #[.pointer (some ⟨b,0,none⟩),.int .u64 (v:Nat)] w (KF B w b (L++put v)):=by
 have H:=A h;have HB:=A hB;have HV:=A hv;have HE:=A hlen;clear h hB hv hlen;go_enter func36,ntmps36
 go_wp2_with(first
  | (go_at_call 86;(with_reducible refine(GR.cH HV.o w).mono ?_);rintro e w1 ⟨g1,u,bb,rfl,hn⟩;obtain⟨bq,oq,cq,rfl,hi,_,_⟩:=Cz hn yK;have G1:=A g1;have HI:=A hi;clear g1 hn hi)
  | (go_at_call 38;(with_reducible refine(sr (Zj H.o G1.o) (Lj HB.o G1.o.size) HI.o (eP _) (by have:=JI HV.o;have:=HE.o;omega)).mono ?_);rintro e w2 ⟨rfl,k1,k2,k3⟩;have K1:=A k1;have K2:=A k2;have K3:=A k3;clear k1 k2 k3))
 refine⟨rfl,_,results_none rfl _ _ _,rfl,K1.o,(Low.zH G1.o HB.o).trans K2.o,tY (Bv H.o).choose_spec G1.o K3.o⟩
def Nx{w:Ea}{L:Eb}(h:In w p L)(k:Low B w w2)(hs:∀a,p=some a->a.block<B):In w2 p L:=by
 refine⟨h.1,λhn=>?_⟩;obtain⟨b',o,rfl,hc⟩:=h.2 hn;refine⟨b',o,rfl,λi x hi=>?_⟩;rw[cell?_of_block (k.old b' (hs _ rfl))];exact hc i x hi
def Dp{bq oq cq:Nat}(h:Wr B w b L)(hB:B<=w.heap.size)(hi:In w (some ⟨bq,oq,none⟩) M)(hq:bq≠b/\∀a n m,w.cell? ⟨b,0,none⟩=some (.slice (some a) n m)->a.block≠bq)(hne:M≠[])(hlen:L.length+M.length<=90000) :
  Calls prog 37 #[.pointer (some ⟨b,0,none⟩),.slice (some ⟨bq,oq,none⟩) M.length cq] w (XU B w b (L++zm M)):=by
 have H:=A h;have HB:=A hB;have HQ:=A hq;have HI:=A hi;have HN:=A hne;have HE:=A hlen;have hw:IntKind.u64.wrap (M.length:Int)=(M.length:Int):=u64_in _ I;clear h hB hi hq hne hlen;go_enter func37,ntmps37
 go_wp2_with(first
  | (go_at_call 36;(with_reducible refine(uint_w H.o HB.o (by have:=HE.o;omega) (by have:=HE.o;omega)).mono ?_);rintro e w1 ⟨rfl,k1,k2,k3⟩;have K1:=A k1;have K2:=A k2;have K3:=A k3;clear k1 k2 k3)
  | (go_at_call 38;(with_reducible refine(sr K1.o (Lj HB.o K2.o.size) (zgI H.o K3.o HI.o HN.o HQ.o.1 HQ.o.2) HN.o (by rw[Lm];have:=JI (v:=M.length) (by have:=HE.o;omega);have:=HE.o;omega)).mono ?_);rintro e w2 ⟨rfl,k1,k2,_⟩;have L1:=A k1;have L2:=A k2;clear k1 k2))
 refine⟨rfl,_,results_none rfl _ _ _,rfl,?_,K2.o.trans L2.o⟩;unfold zm;rw[<- Ae];exact L1.o
def zkL(w:Ea)(L:Eb)(e:Ew)(w2:Ea):Prop:=∃p c,e = .returned (.slice p L.length c)/\Grown w w2/\L.length<=c/\In w2 p L/\∀a,p=some a->w.heap.size<=a.block
def Ku(h:jU B w (.slice p n c) L)(a:∀y∈L,y<256):In w p L:=by
 refine⟨a,λhn=>?_⟩;obtain⟨x,e,hx,_⟩:=h.2 hn;cases e;refine⟨x.1,x.2.1,rfl,λi y hi=>TR.cell_of_row hx ?_⟩;unfold qe;rw[Lw,hi];rfl
def zca(h:Wr B w b L)(hL:∀y∈L,y<256)(hlen:L.length<=100000):Calls prog 39 #[.pointer (some ⟨b,0,none⟩)] w (zkL w L):=by
 obtain⟨p,n,c,hr,hb,rfl⟩:=h.ex;obtain⟨h1,_⟩:=yj hr;have HI:=A (Ku hb hL);have HE:=A hlen;clear h hr hb hL hlen;go_enter func39,ntmps39;go_wp2_with(go_at_call 18;(with_reducible refine(gI HI.o HE.o).mono ?_);rintro e w1 ⟨p',c',rfl,k1,k2,k3,k4⟩;have K:=A (And.intro k1 (And.intro k2 (And.intro k3 k4)));clear k1 k2 k3 k4)
 go_ret
 exact⟨p',c',rfl,K.o⟩
def Th(w:Ea):zx prog (w.alloc (.cells #[.slice none 0 0] 174)) (w.heap.size,0,0) 174 [.slice none 0 0]:=by
 refine⟨_,(0,0),heap_alloc_new w _,by rw[Nat.zero_mul];exact Lh 1,λi _ h=>I,Nat.dvd_zero _,λj a=>?_⟩;have a:j<1:=a;obtain rfl:j=0:=by omega
 rfl
def zkO(w:Ea)(e:Ew)(w2:Ea):Prop:=∃b,e = .returned (.pointer (some ⟨b,0,none⟩))/\Grown w w2/\Wr w.heap.size w2 b []
def M0:Calls prog 35 #[] w (zkO w):=by
 go_enter func35,ntmps35
 go_wp2
 go_ret
 exact⟨w.heap.size,rfl,zc w _,⟨⟨none,0,0,Th w,⟨λ_=>rfl,λh=>Ld rfl h⟩,rfl⟩,Lh _⟩⟩
end
end RD
end
section
open TR
open Go.AuditPlain(put)
namespace RP
open RD(uintR jF cJ bc unzig)
def Cx:∀(l:Eb) (v k:Nat) {x n:Nat},(∀y∈l,y<256)->(k=0/\v=0\/0<k/\0<v)->num v k l=some (x,n)->hi v++l.take (n-k)=put x/\k<n
 | [],_,_,_,_,_,_,h=>by cases h
 | b::l,v,k,x,n,hl,hv,h=>by
  have hb:b<256:=hl b LG;unfold num at h;split at h
  .cases h
  .rename_i d;split at h
   .rename_i h1;cases h;refine⟨?_,I⟩;rw[show k+1-k=1 by omega];show hi v++[b]=put _;unfold put;have e:b % 128=b:=AA h1;rw[e,show(v*128+b) / 128=v by omega,show(v*128+b) % 128=b by omega]
   .rename_i h1
    have a:0<v*128+b % 128:=by
     rcases hv with⟨rfl,rfl⟩|⟨_,hv⟩
     .have:b≠128:=λe=>d (.inl ⟨rfl,e⟩);omega
     .omega
    obtain⟨h2,h3⟩:=Cx l (v*128+b % 128) (k+1) (λy c=>hl y (LP _ c)) (.inr ⟨I,a⟩) h;refine⟨?_,I⟩
    have f:hi (v*128+b % 128)=hi v++[b]:=by
     rw[RD.Vl I,show(v*128+b % 128) / 128=v by omega,show(v*128+b % 128) % 128+128=b by omega]
    rw[<- h2,f,show n-k=(n-(k+1))+1 by omega,take_succ_cons,Ae];rfl
def Wh(hl:∀y∈l,y<256)(h:num 0 0 l=some (x,n)):l=put x++l.drop n:=by
 obtain⟨h1,_⟩:=Cx l 0 0 hl (.inl ⟨rfl,rfl⟩) h;rw[RD.jT,nil_append,Nat.sub_zero]at h1;rw[<- h1,take_append_drop]
def uint_can{L:Eb}(hl:∀y∈L,y<256)(h:uintR m L=some (v,L')):L=put v++L'/\v<=m:=by
 unfold uintR at h;split at h
 .cases h
 .rename_i a n hn;split at h
  .rename_i hm;cases h;exact⟨Wh hl hn,hm⟩
  .cases h
def Hf{L M:Eb}(hl:∀y∈L,y<256)(h:jF m L=some (M,L')):L=zm M++L'/\M.length<=m:=by
 unfold jF at h;split at h
 .cases h
 .rename_i v n hn;split at h
  .rename_i hm;cases h;have h1:=Wh hl hn;have h2:((L.drop n).take v).length=v:=by rw[Ar,length_drop];omega
   refine⟨?_,by rw[h2];exact hm.1⟩;unfold zm;rw[h2,Ae,<- drop_drop,take_append_drop];exact h1
  .cases h
def Px{b:Bool}{L:Eb}(h:cJ L=some (b,L')):L=zT b++L':=by
 cases L with
 | nil=>cases h
 | cons x L=>
  have h:(if x<=1 then some (x==1,L) else none)=some (b,L'):=h;by_cases hx:x<=1
  .rw[Y hx]at h;cases h;have:x=0\/x=1:=by omega
   rcases this with rfl|rfl<;>rfl
  .rw[O hx]at h;cases h
def DJ:zig (unzig u)=u:=by
 unfold zig unzig;split
 .rename_i h;rw[O I];omega
 .rename_i h;rw[Y I];omega
def TJ{v:Int}{L:Eb}(hl:∀y∈L,y<256)(h:bc L=some (v,L')):L=qs v++L':=by
 unfold bc at h;split at h
 .cases h
 .rename_i u n hn;cases h;unfold qs;rw[DJ];exact Wh hl hn
end RP
end
end Go.AEv
