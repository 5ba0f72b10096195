/- Trails of an audit: calls and runs (L2a). Conditions: those of each theorem. -/
import Derived.Test.YtaffhpgaagnjfaaGreatDoorH1x0
import Derived.ProofKit
import Derived.Deep.Slices
import Derived.Lib.LazyBuf
import Derived.Laws.IdiomStrings
open List Nat Array Go.World Go.Lib Go.Proofs.Tryz UInt8 Go.IntWalk
set_option maxRecDepth 100000
set_option maxHeartbeats 4000000
namespace Go.AEv
section
open Go Go.Proofs TR
def WQ(w0:World)(e:Ending)(w2:World):Prop:=∃(a:Addr) (q:Option Addr) (c:Nat) (es fs:List Ent),fs.length<=8/\fs.length<=c/\e = .returned (.tuple #[.pointer (some a),.slice q fs.length c])/\St (own w0) w0 w2 (.pointer (some a)) (.slice q fs.length c) es fs
theorem zvt{b:World}{e:Ending}{w2:World}(h:zsr b e w2):WQ b e w2:=by
 obtain⟨t,want,es,c,rfl,H,hl⟩:=h;obtain⟨⟨x,hd,r,rfl,_⟩,_⟩:=id H.tr;by_cases a:c=[]
 .obtain rfl:=H.rows.1 a;subst a;exact⟨_,none,0,es,[],hl,Nat.le_refl _,rfl,H⟩
 .obtain⟨y,rfl,_⟩:=H.rows.2 a;exact⟨_,_,_,es,c,hl,le_add_right _ _,rfl,H⟩
def zgW(w0:World)(v:Value):Prop:=v = .slice none 0 0\/∃(p:Addr) (n c:Nat),v = .slice (some p) n c/\n<=c/\∀j,j<n->∃x,zsA w0 p j x
theorem zsG{a w:World}{v:Value}(b:Grown a w)(f:Z6 a)(g:Wx a)(hv:zgW a v):Calls prog 7 #[v,.slice none 0 0] w (WQ a):=by
 rcases hv with rfl|⟨p,n,c,rfl,d,e⟩
 .exact(zna a w b b.size f).mono fun _ _ h=>zvt h
 .exact(zjx p n c (min n 8) a w b b.size (by omega) (by omega) (by omega) d f g e).mono fun _ _ h=>zvt h
theorem zs7{B:Nat->Prop}{d w:World}{t:Value}{q:Option Addr}{c:Nat}{es a:List Ent}(H:St B d w t (.slice q a.length c) es a)(j:Nat)(e:j<=a.length):RH.Part (.slice q a.length c) (.slice q j c) a.length j:=by
 refine⟨fun h=>?_,fun _=>⟨q,c,rfl,rfl⟩⟩;have b:=eq_nil_of_length_eq_zero h;have:=H.rows.1 b;subst b;cases this;have:j=0:=by simpa using e
 rw[this]
end
end Go.AEv
namespace Go.Proofs.YtaffhpgaagnjfaaGreatDoor
open Go.ChangeShapes Go.WideShapes Go.ChangeAt Go.RowKit
open Go.AEv (tabs Wx Sl4 JT)
theorem c5:Tryz.prog.cellsOf 5=1:=by kernel_rfl
theorem c3:Tryz.prog.cellsOf 3=1:=by kernel_rfl
theorem c4:Tryz.prog.cellsOf 4=1:=by kernel_rfl
theorem zAX:Tryz.prog.cellsOf 106=1:=by kernel_rfl
theorem kG{l:List Value}{j:Nat}{v:Value}(h:(l.drop j).take 1=[v]):l[j]?=some v:=by
 have:=congrArg (fun m=>m[0]?) h;simpa using this
theorem u8_nat{n:Int}(w:(Lit.int .u8 n).wf=true):∃m:Nat,n=m/\m<256:=by
 have h1:IntKind.u8.min=0:=rfl;have h2:IntKind.u8.max=255:=rfl;simp only[Lit.wf,Bool.and_eq_true,decide_eq_true_eq,h1,h2]at w;exact⟨n.toNat,by omega,by omega⟩
theorem zk5{p:Nat->Nat->Prop}{n:Nat}(h:∀i,i<n->∃b,p i b):∃B:Nat->Nat,∀i,i<n->p i (B i):=by
 exact⟨fun i=>if hi:i<n then(h i hi).choose else 0,fun i hi=>by show p i (if hi:i<n then(h i hi).choose else 0);rw[dif_pos hi];exact(h i hi).choose_spec⟩
section
variable{H:Type}{enc:TypeId×Value->H}{W:World}
theorem zmg{n:Nat}{cs:List Value}{x:DataW H×List MemPlace}{t:TypeId}(u:Tryz.prog.underlying t=some (.slice 5))(h:DataW.trod enc prog W 0 (fun _=>true) true n t cs=some x):∃s:Sl4,s.Ok/\s.In W/\cs=[s.val]:=by
 rcases Go.Deep.open_slice1 u c5 h with⟨rfl,_⟩|⟨a,len,cap,m,k,V,D,w,rfl,_,hle,_,hm,_,hx⟩
 .refine⟨⟨none,0,0,[]⟩,⟨rfl,Nat.le_refl _,(fun b hb=>absurd hb (by intro h;cases h)),fun h=>absurd rfl h⟩,(fun b o hb _=>absurd hb (by intro h;cases h)),rfl⟩
 .have hm:m=cap:=hm;subst hm
  have g:∀i,i<m->∃b:Nat,W.cell? (a.add i)=some (.int .u8 (b:Nat))/\b<256:=by
   intro i hi;obtain⟨h1,h2⟩:=hx i hi;obtain⟨z,e,_,wz⟩:=DataW.trod_int underlying5 h2;obtain⟨b,rfl,hb⟩:=u8_nat wz;refine⟨b,?_,hb⟩;rw[h1];exact congrArg some (List.singleton_inj.1 e)
  obtain⟨B,g⟩:=zk5 g
  have c:∀i x,((List.range (min len 4)).map B)[i]?=some x->i<len/\x=B i:=by
   intro i x hx;rw[List.getElem?_map]at hx;obtain⟨j,r,rfl⟩:=Option.map_eq_some_iff.1 hx;have hi:=(List.getElem?_eq_some_iff.1 r).1;rw[length_range]at hi;rw[List.getElem?_range hi]at r;cases r;exact⟨by omega,rfl⟩
  have d:0<len->a.spot=none:=by
   intro l;obtain⟨h1,_⟩:=g 0 (by omega)
   have h1:W.cell? a=some (.int .u8 (B 0:Nat)):=by
    have e:a.add 0=a:=by unfold Addr.add;simp
    rwa[e]at h1
   unfold World.cell? at h1;split at h1
   .split at h1
    .cases h1
    .rename_i hs
     cases v:a.spot with
     | none=>rfl
     | some z=>rw[v]at hs;exact absurd rfl hs
   .cases h1
  refine⟨⟨some a,len,m,(List.range (min len 4)).map B⟩,⟨by simp,hle,?_,?_⟩,?_,rfl⟩
  .intro b hb;obtain⟨i,hi⟩:=List.getElem?_of_mem hb;obtain⟨h1,rfl⟩:=c i b hi;exact(g i (by omega)).2
  .intro f
   have l:0<len:=by
    rcases eq_zero_or_pos len with h|h
    .subst h;exact absurd rfl f
    .exact h
   refine⟨a.block,a.off,?_⟩;show some a=_;rw[<- d l]
  .intro b o hb f;have hb:some a=some ⟨b,o,none⟩:=hb;cases hb
   have l:0<len:=by
    rcases eq_zero_or_pos len with h|h
    .subst h;exact absurd rfl f
    .exact h
   have key:∀i,i<len->W.cell? ⟨b,o+i,none⟩=some (.int .u8 (B i:Nat)):=by
    intro i hi;have h1:=(g i (by omega)).1;have e:Addr.add ⟨b,o,none⟩ i=⟨b,o+i,none⟩:=by unfold Addr.add;by_cases h:i=0<;>simp[h]
    rwa[e]at h1
   have p:=key 0 l;unfold World.cell? at p;split at p
   .rename_i arr t fz hh;refine⟨arr,t,fz,hh,fun i x hx=>?_⟩;obtain⟨h1,rfl⟩:=c i x hx;have:=key i h1;unfold World.cell? at this;rw[hh]at this;exact this
   .cases p
theorem Jc{n:Nat}{cs:List Value}{x:DataW H×List MemPlace}(h:DataW.trod enc prog W 0 (fun _=>true) true n 5 (cs.take (Tryz.prog.cellsOf 5))=some x):∃b:Nat,b<256/\cs.take 1=[.int .u8 (b:Nat)]:=by
 rw[c5]at h;obtain⟨z,e,_,wz⟩:=DataW.trod_int underlying5 h;obtain⟨b,rfl,hb⟩:=u8_nat wz;exact⟨b,hb,e⟩
theorem zf1{n:Nat}{cs:List Value}{x:DataW H×List MemPlace}(h:DataW.trod enc prog W 0 (fun _=>true) true n 4 (cs.take (Tryz.prog.cellsOf 4))=some x):∃b:Bool,cs.take 1=[.bool b]:=by
 rw[c4]at h;obtain⟨b,e,_⟩:=DataW.trod_bool underlying4 h;exact⟨b,e⟩
theorem QJ{l:List Value}{i j n:Nat}{v:Value}(a:j<n)(h:(((l.drop i).take n).drop j).take 1=[v]):l[i+j]?=some v:=by
 have:=kG h;rw[getElem?_take,if_pos a,getElem?_drop]at this;exact this
theorem zkl{fuel:Nat}{cs:Array Value}{x:DataW H×List MemPlace}(hf:DataW.trod enc prog W 0 (fun _=>true) true fuel 80 cs.toList=some x) :
  ∃x:JT,(∀m,1<=m->m<=8->JT.Ok { x with num:=m })/\x.u.In W/\x.d.In W/\cs.toList=x.ZB:=by
 obtain⟨xs,n,_,_,hlen,hx,a⟩:=DataW.trod_struct underlying80 hf;have G:Tryz.prog.cellsOf 80=14:=by kernel_rfl
 have J:Tryz.prog.cellsOf 76=3:=by kernel_rfl
 have I:Tryz.prog.cellsOf 78=5:=by kernel_rfl
 rw[G]at hlen;have hx8:xs.length=8:=hx;have at_:∀i,i<8->∃y,xs[i]?=some y:=fun i hi=>⟨_,List.getElem?_eq_getElem (by omega)⟩
 obtain⟨y0,z0⟩:=at_ 0 (by decide);obtain⟨y1,z1⟩:=at_ 1 (by decide);obtain⟨y2,z2⟩:=at_ 2 (by decide);obtain⟨y3,z3⟩:=at_ 3 (by decide);obtain⟨y4,z4⟩:=at_ 4 (by decide);obtain⟨y5,z5⟩:=at_ 5 (by decide);obtain⟨y6,z6⟩:=at_ 6 (by decide);obtain⟨y7,z7⟩:=at_ 7 (by decide);obtain⟨a0,b0,e0⟩:=Jc ((a 0 _ rfl).trans z0);obtain⟨a1,b1,e1⟩:=Jc ((a 1 _ rfl).trans z1);obtain⟨a2,b2,e2⟩:=Jc ((a 2 _ rfl).trans z2);obtain⟨a3,b3,e3⟩:=Jc ((a 3 _ rfl).trans z3);obtain⟨a7,e7⟩:=zf1 ((a 5 _ rfl).trans z5);obtain⟨a8,e8⟩:=zf1 ((a 6 _ rfl).trans z6);have f4:DataW.trod enc prog W 0 (fun _=>true) true n 76 ((cs.toList.drop 4).take (Tryz.prog.cellsOf 76))=some y4:=(a 4 _ rfl).trans z4;have f7:DataW.trod enc prog W 0 (fun _=>true) true n 78 ((cs.toList.drop 9).take (Tryz.prog.cellsOf 78))=some y7:=(a 7 _ rfl).trans z7;obtain⟨Q,na,rfl,_,_,L,g⟩:=DataW.trod_struct underlying76 f4;have U:Q.length=3:=L;have h:∀i,i<3->∃y,Q[i]?=some y:=fun i hi=>⟨_,List.getElem?_eq_getElem (by omega)⟩
 obtain⟨ya0,B⟩:=h 0 (by decide);obtain⟨ya1,A⟩:=h 1 (by decide);obtain⟨ya2,z⟩:=h 2 (by decide);obtain⟨a4,b4,e4⟩:=Jc ((g 0 _ rfl).trans B);obtain⟨a5,b5,Z⟩:=Jc ((g 1 _ rfl).trans A);obtain⟨a6,b6,Y⟩:=Jc ((g 2 _ rfl).trans z);obtain⟨P,nc,hnc,_,_,K,b⟩:=DataW.trod_struct underlying78 f7;have T:P.length=5:=K;have f:∀i,i<5->∃y,P[i]?=some y:=fun i hi=>⟨_,List.getElem?_eq_getElem (by omega)⟩
 obtain⟨yc0,w⟩:=f 0 (by decide);obtain⟨yc1,v⟩:=f 1 (by decide);obtain⟨yc2,t⟩:=f 2 (by decide);obtain⟨yc3,r⟩:=f 3 (by decide);obtain⟨yc4,p⟩:=f 4 (by decide);obtain⟨a9,b9,X⟩:=Jc ((b 0 _ rfl).trans w);obtain⟨O,M,o⟩:=Jc ((b 1 _ rfl).trans v);obtain⟨s11,D,i11,e⟩:=zmg (by first|exact underlying51|rfl) ((b 2 _ rfl).trans t);obtain⟨s12,C,i12,c⟩:=zmg (by first|exact underlying51|rfl) ((b 3 _ rfl).trans r);obtain⟨N,l⟩:=zf1 ((b 4 _ rfl).trans p);have k:Tryz.prog.cellsOf 51=1:=by kernel_rfl
 rw[J]at e4 Z Y;rw[I]at X o e c l;have e:(((cs.toList.drop 9).take 5).drop 2).take 1=[s11.val]:=by first|exact e|(rw[<- k];exact e)
 have c:(((cs.toList.drop 9).take 5).drop 3).take 1=[s12.val]:=by first|exact c|(rw[<- k];exact c)
 refine⟨⟨a0,a1,a2,a3,a4,a5,a6,a7,a8,a9,O,s11,s12,N,1⟩,fun m h1 h2=>⟨⟨h1,h2⟩,b0,b1,b2,b3,b4,b5,b6,b9,M,D,C⟩,i11,i12,?_⟩;apply List.ext_getElem?;intro j
 match j with
 | 0=>exact kG e0
 | 1=>exact kG e1
 | 2=>exact kG e2
 | 3=>exact kG e3
 | 4=>exact QJ (i:=4) (j:=0) (by decide) e4
 | 5=>exact QJ (i:=4) (j:=1) (by decide) Z
 | 6=>exact QJ (i:=4) (j:=2) (by decide) Y
 | 7=>exact kG e7
 | 8=>exact kG e8
 | 9=>exact QJ (i:=9) (j:=0) (by decide) X
 | 10=>exact QJ (i:=9) (j:=1) (by decide) o
 | 11=>exact QJ (i:=9) (j:=2) (by decide) e
 | 12=>exact QJ (i:=9) (j:=3) (by decide) c
 | 13=>exact QJ (i:=9) (j:=4) (by decide) l
 | n+14=>rw[List.getElem?_eq_none (by omega)];rfl
theorem zkk{base:Nat}{v:Value}{d:DataW H}{g:List MemPlace}(hv:Value.okWide prog W .any base 22 v)(h:DataW.Trod enc prog W 0 (fun _=>true) true 22 v d g):Go.AEv.zgW W v:=by
 obtain⟨C,len,cap,rfl⟩:=okWide_slice underlying22 hv;obtain⟨fuel,l⟩:=h;have l:DataW.trod enc prog W 0 (fun _=>true) true fuel 22 [.slice C len cap]=some (d,g):=l;have k:Tryz.prog.cellsOf 80=14:=by kernel_rfl
 rcases Go.Deep.open_slice underlying22 l with⟨f,_⟩|⟨a,r,cap',m,n,D,I,f,_,hle,_,hm,_,hx⟩
 .cases f;exact .inl rfl
 .cases f;have hm:m=cap:=hm;subst hm;refine .inr ⟨a,len,m,rfl,hle,fun j G=>?_⟩;obtain⟨o,h1,h2⟩:=hx j (by omega);rw[k]at h1;obtain⟨_,hlen,c⟩:=cells?_some h1;obtain⟨x,A,t,u,hc⟩:=zkl (cs:=o.toArray) (by rw[List.toList_toArray];exact h2);rw[List.toList_toArray]at hc;subst hc
  have b:(a.add (j*14)).spot=none:=by
   have f:=c 0 (by omega);have e:(a.add (j*14)).add 0=a.add (j*14):=by unfold Addr.add;simp
   rw[e]at f;unfold World.cell? at f;split at f
   .split at f
    .cases f
    .rename_i hs
     cases B:(a.add (j*14)).spot with
     | none=>rfl
     | some z=>rw[B]at hs;exact absurd rfl hs
   .cases f
  refine⟨x,A,t,u,?_⟩;generalize hp:a.add (j*14)=p at c b;obtain⟨y,w,g⟩:=p;have b:g=none:=b;subst b
  have key:∀i v,x.ZB[i]?=some v->i<14->W.cell? ⟨y,w+i,none⟩=some v:=by
   intro i v hv hi;have:=c i hi;rw[hv,Addr.add_lit]at this;exact this
  unfold Go.AEv.zgX;rw[hp];exact⟨key 0 _ rfl (by decide),key 1 _ rfl (by decide),key 2 _ rfl (by decide),key 3 _ rfl (by decide),key 4 _ rfl (by decide),key 5 _ rfl (by decide),key 6 _ rfl (by decide),key 7 _ rfl (by decide),key 8 _ rfl (by decide),key 9 _ rfl (by decide),key 10 _ rfl (by decide),key 11 _ rfl (by decide),key 12 _ rfl (by decide),key 13 _ rfl (by decide)⟩
end
theorem zfD{W:World}(h:Wx W):Go.AEv.Z6 W:=by
 letI:=AEv.unk0;obtain⟨a,h1,h3⟩:=h;refine AEv.zfE ⟨a,h1,fun p hp=>h3 p ?_⟩;simp only[AEv.KP.tabs,mem_cons,mem_nil_iff,or_false]at hp;rcases hp with rfl|rfl
 .exact mem_cons_self
 .exact mem_cons_of_mem _ mem_cons_self
end Go.Proofs.YtaffhpgaagnjfaaGreatDoor
namespace Go.AEv
section
open Go Go.Proofs TR
namespace RD
def qM(L:List Nat):List Value:=L.map fun x=>.int .u8 (x:Nat)
theorem under51:Tryz.prog.underlying 51=some (.slice 5):=by kernel_rfl
theorem zo1(w:World){ops:Array Oper}{rest:List Oper}{o:Oper}{a:Act}{Q:Exit->Act->World->Prop}(s x:Operand){L:List Nat}{b c off:Nat}{C:Option Addr}
  (hg:o.guard=none) (hop:o.op=Op.call { callee:=Callee.builtin Builtin.append,args:=#[s,x],argTypes:=#[51,51] }) (hs:a.eval s = .slice C 0 0) (hL:∀y∈L,y<256) (hne:L≠[]) (hlen:L.length<=100000)
  (hx:a.eval x = .slice (some ⟨b,off,none⟩) L.length c) (hb:∀i y,L[i]?=some y->w.cell? ⟨b,off+i,none⟩=some (.int .u8 (y:Nat)))
  (hK:∀p B w',L.length<=B->In w' (some p) L->w.heap.size<=p.block->Grown w w'->wpList prog ops Q rest (a.put o.dst (.slice (some p) L.length B)) w') :
  wpList prog ops Q (o::rest) a w:=by
 obtain⟨i,hi⟩:∃i,Tryz.prog.info? 5=some i:=Option.isSome_iff_exists.1 (by kernel_rfl);have h:(Tryz.prog.info? 5).map (·.size)=some 1:=by kernel_rfl
 have k2:(Tryz.prog.info? 5).map (fun i=>Nat.ble i.bytes 1000)=some true:=by kernel_rfl
 have k3:((Tryz.prog.info? 5).bind (·.zero)).map (fun z=>z.cells.size)=some 1:=by kernel_rfl
 rw[hi]at h k2 k3;have h:i.size=1:=Option.some.inj h;have k2:i.bytes<=1000:=Nat.ble_eq.mp (Option.some.inj k2);obtain⟨z,l,k⟩:=Option.map_eq_some_iff.1 k3;have l:i.zero=some z:=l;have A:0<L.length:=List.length_pos_iff.2 hne;have n:(0+L.length)*i.bytes<=140737488355328:=Nat.le_trans (Nat.mul_le_mul (show 0+L.length<=100000 by omega) k2) (by decide);have r:0+L.length<=maxLen:=by unfold maxLen;omega
 refine wpList_append_grows w hg s x 51 hop 5 i z 1 i.bytes under51 hi l h rfl k (by decide) C 0 0 [] hs (fun _=>⟨rfl,rfl⟩) rfl (fun b _ j u f=>by cases f) _ L.length c (qM L) hx (by unfold qM;simp) (fun j u f=>?_) (fun u v=>?_) (by omega) r n fun I w' G d=>?_
 .unfold qM at f;rw[List.getElem?_map]at f;obtain⟨y,D,rfl⟩:=Option.map_eq_some_iff.1 f;rw[Addr.add_lit];exact hb j y D
 .unfold qM at v;obtain⟨y,_,rfl⟩:=List.mem_map.1 v;rfl
 .obtain⟨_,⟨_,K⟩|⟨g,cap,cur,rfl,h1,h2,h3,_,J,t⟩⟩:=G
  .omega
  .have m:Grown w w':=⟨fun c hc=>d.block c hc (by simp),d.size,d.tape,d.os,d.output⟩
   have:=hK ⟨g,0,none⟩ cap w' (by omega) ⟨hL,fun _=>⟨g,0,rfl,fun j y f=>?_⟩⟩ h1 m
   .rw[show 0+L.length=L.length by omega];exact this
   .have H:=(List.getElem?_eq_some_iff.1 f).1;have e:(qM L)[j]?=some (.int .u8 (y:Nat)):=by unfold qM;rw[List.getElem?_map,f];rfl
    have t:List.take ((0+L.length)*1) cur.toList=qM L:=t;rw[<- t,getElem?_take,if_pos (by omega),getElem?_toList]at e;unfold World.cell?;rw[h2,Nat.zero_add];exact e
def zbW(w:World)(L:List Nat)(e:Ending)(w2:World):Prop:=∃p c,e = .returned (.slice p L.length c)/\Grown w w2/\L.length<=c/\In w2 p L/\(∀a,p=some a->w.heap.size<=a.block)/\∀a,p=some a->a.block<w2.heap.size
def zxJ(w:World)(L:List Nat)(e:Ending)(w2:World):Prop:=∃p c,e = .returned (.slice p L.length c)/\Grown w w2/\L.length<=c/\In w2 p L/\∀a,p=some a->w.heap.size<=a.block
theorem zlc{w:World}{a:Addr}{v:Value}{o:Obj}(h:w.cell? a=some v):(w.alloc o).cell? a=some v:=by
 rw[cell?_alloc_lt _ _ _ (block_lt_of_cell? w a h)];exact h
theorem zbe{w:World}{b o:Nat}{L:List Nat}(h:In w (some ⟨b,o,none⟩) L)(a:L≠[])(c:Obj):∀i y,L[i]?=some y->(w.alloc c).cell? ⟨b,o+i,none⟩=some (.int .u8 (y:Nat)):=by
 obtain⟨b',d,e,h⟩:=h.2 a;cases e;exact fun i y hi=>zlc (h i y hi)
theorem zrm{w:World}{p:Addr}{L:List Nat}(h:In w (some p) L)(hn:L≠[]):p.block<w.heap.size:=by
 obtain⟨b,o,e,hc⟩:=h.2 hn;cases e;obtain⟨x,l,rfl⟩:=exists_cons_of_ne_nil hn;exact block_lt_of_cell? w _ (hc 0 x rfl)
theorem nil_eq(w:World)(a:Option Addr)(l c:Nat):(binOp BinOp.eql 51 (.slice a l c) (.slice none 0 0)).run prog w = .ok (.bool a.isNone) w:=run_eql_slice_nil w 51 5 a l c under51
theorem zk4(w:World)(b o c:Nat)(L:List Nat)(hL:In w (some ⟨b,o,none⟩) L)(hne:L≠[])(hlen:L.length<=100000):Calls prog 18 #[.slice (some ⟨b,o,none⟩) L.length c] w (zbW w L):=by
 have HL:=hid hL;have HN:=hid hne;have HE:=hid hlen;clear hL hne hlen;have hnil:=nil_eq;go_enter func18,ntmps18
 go_wp2_with(at_builtin;refine zo1 _ _ _ rfl rfl rfl HL.out.1 HN.out HE.out rfl (zbe HL.out HN.out _) ?_;intro p c' w' h1 h2 h3 h4;have H1:=hid h1;have H2:=hid h2;have H3:=hid h3;have H4:=hid h4;clear h1 h2 h3 h4)
 go_ret
 exact⟨some p,c',rfl,(zE w _).trans' H4.out,H1.out,H2.out,(fun a ha=>by cases ha;exact Nat.le_trans (zE w _).size H3.out),fun a ha=>(by cases ha;exact zrm H2.out HN.out)⟩
theorem zag(w:World)(p:Option Addr):In w p []:=⟨fun b hb=>(by cases hb),fun h=>absurd rfl h⟩
theorem zot(w:World)(c:Nat):Calls prog 18 #[.slice none 0 c] w (zbW w []):=by
 have hnil:=nil_eq;go_enter func18,ntmps18
 go_wp2
 go_ret
 exact⟨none,0,rfl,⟨fun _ _=>rfl,Nat.le_refl _,rfl,rfl,rfl⟩,Nat.le_refl _,zag _ _,fun a ha=>(by cases ha),fun a ha=>(by cases ha)⟩
theorem ziW(w:World)(a:Addr)(c:Nat):Calls prog 18 #[.slice (some a) 0 c] w (zbW w []):=by
 have hnil:=nil_eq;go_enter func18,ntmps18
 go_wp2
 go_ret
 exact⟨some _,0,rfl,zE w _,Nat.le_refl _,zag _ _,(fun a ha=>by cases ha;exact Nat.le_refl _),fun a ha=>by cases ha;unfold World.alloc;simp⟩
theorem zbf{w:World}{p:Option Addr}{c:Nat}{L:List Nat}(d:In w p L)(hlen:L.length<=100000):Calls prog 18 #[.slice p L.length c] w (zbW w L):=by
 by_cases h:L=[]
 .subst h
  cases p with
  | none=>exact zot w c
  | some a=>exact ziW w a c
 .obtain⟨b,o,rfl,_⟩:=d.2 h;exact zk4 w b o c L d h hlen
theorem zdx{w:World}{p:Option Addr}{c:Nat}{L:List Nat}(a:In w p L)(hlen:L.length<=100000):Calls prog 18 #[.slice p L.length c] w (zxJ w L):=
 (zbf a hlen).mono fun _ _ h=>by
  obtain⟨p,c,h1,h2,h3,d,b,_⟩:=h;exact⟨p,c,h1,h2,h3,d,b⟩
end RD
end
section
open Go Go.Proofs TR
namespace RD
structure j6(b:Nat)(w w2:World):Prop where
 old:∀c,c<w.heap.size->c≠b->w2.heap[c]?=w.heap[c]?
 size:w.heap.size<=w2.heap.size
 tape:w2.tape=w.tape
 os:w2.os=w.os
 output:w2.output=w.output
 ty:∀(arr:Array Value) (t:TypeId) (fz:Nat×Nat),w.heap[b]?=some (.cells arr t fz)->∃arr2,w2.heap[b]?=some (.cells arr2 t fz)
theorem j6.refl(b:Nat)(w:World):j6 b w w:=⟨fun _ _ _=>rfl,Nat.le_refl _,rfl,rfl,rfl,fun arr _ _ h=>⟨arr,h⟩⟩
theorem j6.trans{b:Nat}{x y z:World}(h:j6 b x y)(k:j6 b y z):j6 b x z:=
 ⟨fun c hc hn=>by rw[k.old c (Nat.lt_of_lt_of_le hc h.size) hn,h.old c hc hn],Nat.le_trans h.size k.size,k.tape.trans h.tape,k.os.trans h.os,k.output.trans h.output,fun arr t fz a=>by obtain⟨d,h1⟩:=h.ty arr t fz a;exact k.ty d t fz h1⟩
theorem j6.qt{b:Nat}{x y:World}(h:Grown x y):j6 b x y:=⟨fun c hc _=>h.old c hc,h.size,h.tape,h.os,h.output,fun arr _ _ a=>⟨arr,(h.old b (Array.getElem?_eq_some_iff.1 a).1).trans a⟩⟩
theorem kL(b o:Nat)(v:Value)(w:World):j6 b w (w.setCell ⟨b,o,none⟩ v):=by
 refine⟨fun c _ hn=>?_,?_,rfl,rfl,rfl,fun arr t fz a=>⟨arr.setIfInBounds o v,?_⟩⟩
 .unfold World.setCell;rw[Array.getElem?_modify,if_neg (fun h=>hn h.symm)]
 .unfold World.setCell;exact Nat.le_of_eq Array.size_modify.symm
 .unfold World.setCell;rw[Array.getElem?_modify,if_pos rfl,a];rfl
def Ty(w:World)(b:Nat):Prop:=∃arr fz,w.heap[b]?=some (.cells arr 176 fz)
theorem Ty.only{b:Nat}{w w2:World}(h:Ty w b)(k:j6 b w w2):Ty w2 b:=by
 obtain⟨arr,fz,h⟩:=h;obtain⟨a,h2⟩:=k.ty _ _ _ h;exact⟨a,fz,h2⟩
theorem zbG{b:Nat}{w w2:World}{p:Option Addr}{L:List Nat}(h:In w p L)(k:j6 b w w2)(hs:∀a,p=some a->a.block≠b):In w2 p L:=by
 refine⟨h.1,fun hn=>?_⟩;obtain⟨b',o,rfl,hc⟩:=h.2 hn;refine⟨b',o,rfl,fun i x hi=>?_⟩;have:=hc i x hi;rw[cell?_of_block (k.old b' (block_lt_of_cell? w _ this) (hs _ rfl))];exact this
theorem ztK{w:World}{b o:Nat}{L:List Nat}(h:In w (some ⟨b,o,none⟩) L)(n:Nat):In w (some ⟨b,o+n,none⟩) (L.drop n):=by
 refine⟨fun y a=>h.1 y (mem_of_mem_drop a),fun hn=>?_⟩;have c:L≠[]:=fun e=>hn (by rw[e,drop_nil]);obtain⟨b',d,e,hc⟩:=h.2 c;cases e;refine⟨b,o+n,rfl,fun i x hi=>?_⟩;rw[getElem?_drop]at hi;rw[show o+n+i=o+(n+i) by omega];exact hc _ x hi
theorem zmE{w:World}{p:Option Addr}{L:List Nat}(h:In w p L)(n:Nat):In w p (L.take n):=by
 refine⟨fun y a=>h.1 y (mem_of_mem_take a),fun hn=>?_⟩;have c:L≠[]:=fun e=>hn (by rw[e,take_nil]);obtain⟨b,o,rfl,hc⟩:=h.2 c;refine⟨b,o,rfl,fun i x hi=>hc i x ?_⟩;rw[getElem?_take]at hi;split at hi
 .exact hi
 .cases hi
structure At(w:World)(b g:Nat)(L:List Nat)(e:Int):Prop where
 left:∃p c,w.cell? ⟨b,0,none⟩=some (.slice p L.length c)/\L.length<=c/\In w p L/\∀a,p=some a->a.block=g
 sep:g≠b
 err:w.cell? ⟨b,1,none⟩=some (.int .i64 e)
 fz0:w.frozen? ⟨b,0,none⟩=false
 fz1:w.frozen? ⟨b,1,none⟩=false
 few:L.length<=100000
theorem At.grown{w w2:World}{b g:Nat}{L:List Nat}{e:Int}(h:At w b g L e)(k:Grown w w2):At w2 b g L e:=by
 obtain⟨p,c,h1,h2,h3,d⟩:=h.left;have hb:=k.old b (block_lt_of_cell? w _ h.err);refine⟨⟨p,c,by rw[cell?_of_block (a:=⟨b,0,none⟩) hb];exact h1,h2,?_,d⟩,h.sep,by rw[cell?_of_block (a:=⟨b,1,none⟩) hb];exact h.err,by rw[frozen?_of_block (a:=⟨b,0,none⟩) hb];exact h.fz0,by rw[frozen?_of_block (a:=⟨b,1,none⟩) hb];exact h.fz1,h.few⟩;refine⟨h3.1,fun hn=>?_⟩;obtain⟨b',o,rfl,hc⟩:=h3.2 hn;refine⟨b',o,rfl,fun i x hi=>?_⟩;have:=hc i x hi;rw[cell?_of_block (k.old b' (block_lt_of_cell? w _ this))];exact this
theorem yx{w w2:World}{a:Addr}{v:Value}(h:w.cell? a=some v)(g:Grown w w2):w2.cell? a=some v:=by
 rw[cell?_of_block (g.old _ (block_lt_of_cell? w a h))];exact h
theorem zgn{w w2:World}{a:Addr}{v:Value}(h:w.cell? a=some v)(c:w.frozen? a=false)(g:Grown w w2):w2.frozen? a=false:=by
 rw[frozen?_of_block (g.old _ (block_lt_of_cell? w a h))];exact c
theorem At.fail{w:World}{b g:Nat}{L:List Nat}{e:Int}(h:At w b g L e)(f:Int):At (w.setCell ⟨b,1,none⟩ (.int .i64 f)) b g L f:=by
 obtain⟨p,c,h1,h2,h3,d⟩:=h.left;exact⟨⟨p,c,by rw[cell?_setCell_other _ _ _ _ (by simp)];exact h1,h2,zbG h3 (kL b 1 _ w) (fun a i e=>h.sep ((d a i).symm.trans e)),d⟩,h.sep,cell?_setCell_same _ _ _ h.err,by rw[frozen?_setCell];exact h.fz0,by rw[frozen?_setCell];exact h.fz1,h.few⟩
section
variable{w:World}{b g:Nat}{L:List Nat}
theorem kD(h:At w b g L 0):Calls prog 87 #[.pointer (some ⟨b,0,none⟩)] w fun e w2=>e = .returned (.bool true)/\w=w2:=by
 have he:=h.err;clear h;go_enter func87,ntmps87
 go_wp2
 go_ret
 exact⟨rfl,rfl⟩
theorem zcB{er:Int}(h:At w b g L er)(hn:er≠0):Calls prog 87 #[.pointer (some ⟨b,0,none⟩)] w fun e w2=>e = .returned (.bool false)/\w=w2:=by
 have he:=h.err;have hz:(er==0)=false:=by simpa using hn
 clear h hn;go_enter func87,ntmps87
 go_wp2
 go_ret
 exact⟨rfl,rfl⟩
theorem zoi(h:At w b g L 0)(er:Int):Calls prog 142 #[.pointer (some ⟨b,0,none⟩),.int .i64 er] w fun e w2=>e = .returned (.tuple #[])/\At w2 b g L er/\j6 b w w2:=by
 have H:=hid h;have he:=h.err;have hf:=h.fz1;clear h;go_enter func142,ntmps142
 go_wp2_with(go_at_call 87;(with_reducible refine(kD H.out).mono ?_);rintro e w1 ⟨rfl,rfl⟩)
 refine⟨rfl,_,results_none rfl _ _ _,rfl,H.out.fail er,kL b 1 _ w⟩
theorem ji(er:Int):Calls prog 88 #[.pointer (some ⟨b,0,none⟩),.bool false,.int .i64 er] w fun e w2=>e = .returned (.bool true)/\w=w2:=by
 go_enter func88,ntmps88
 go_wp2
 go_ret
 exact⟨rfl,rfl⟩
theorem ym(h:At w b g L 0)(er:Int):Calls prog 88 #[.pointer (some ⟨b,0,none⟩),.bool true,.int .i64 er] w fun e w2=>e = .returned (.bool false)/\At w2 b g L er/\j6 b w w2:=by
 have H:=hid h;clear h;go_enter func88,ntmps88
 go_wp2_with(go_at_call 142;(with_reducible refine(zoi H.out er).mono ?_);rintro e w1 ⟨rfl,h1,h2⟩;have H1:=hid h1;have H2:=hid h2;clear h1 h2)
 go_ret
 exact⟨rfl,H1.out,H2.out⟩
def zxK(w:World)(L:List Nat)(n:Nat)(e:Ending)(w2:World):Prop:=∃p c,e = .returned (.slice p n c)/\Grown w w2/\L.length<=c/\In w2 p L/\∀a,p=some a->w.heap.size<=a.block
theorem zuV{w:World}{p:Option Addr}{c n:Nat}{L:List Nat}(a:In w p L)(hlen:L.length<=100000)(hn:L.length=n):Calls prog 18 #[.slice p n c] w (zxK w L n):=by
 subst hn;exact zdx a hlen
theorem At.set{w:World}{b g:Nat}{L L':List Nat}{e:Int}{m:Nat}(h:At w b g L e){p:Option Addr}{c:Nat}(hm:L'.length=m)(hc:L'.length<=c)(hi:In w p L')(hs:∀a,p=some a->a.block=g)(d:L'.length<=100000):At (w.setCell ⟨b,0,none⟩ (.slice p m c)) b g L' e:=by
 obtain⟨i,j,h1,_,_,_⟩:=h.left;subst hm;exact⟨⟨p,c,cell?_setCell_same _ _ _ h1,hc,zbG hi (kL b 0 _ w) (fun a f e=>h.sep ((hs a f).symm.trans e)),hs⟩,h.sep,by rw[cell?_setCell_other _ _ _ _ (by simp)];exact h.err,by rw[frozen?_setCell];exact h.fz0,by rw[frozen?_setCell];exact h.fz1,d⟩
theorem Wj{w w2:World}{p:Option Addr}{L:List Nat}(h:In w p L)(g:Grown w w2):In w2 p L:=by
 refine⟨h.1,fun hn=>?_⟩;obtain⟨b,o,rfl,hc⟩:=h.2 hn;exact⟨b,o,rfl,fun i x hi=>yx (hc i x hi) g⟩
theorem zw4{w:World}{p:Option Addr}{L:List Nat}(h:In w p L)(n:Nat):In w (Option.map (fun x=>x.add n) p) (L.drop n):=by
 by_cases a:L=[]
 .subst a;rw[drop_nil];exact zag _ _
 .obtain⟨b,o,rfl,_⟩:=h.2 a;show In w (some (Addr.add ⟨b,o,none⟩ n)) (L.drop n);rw[Addr.add_lit];exact ztK h n
theorem zsT{p:Option Addr}{b:Nat}(h:∀a,p=some a->a.block=b)(n:Nat):∀a,Option.map (fun x=>x.add n) p=some a->a.block=b:=by
 intro a c;obtain⟨x,rfl,rfl⟩:=Option.map_eq_some_iff.1 c;have:(x.add n).block=x.block:=by unfold Addr.add;split<;>rfl
 rw[this];exact h x rfl
def zv5(w:World)(b g:Nat)(L:List Nat)(e:Int)(n:Nat)(en:Ending)(w2:World):Prop:=∃p c,en = .returned (.slice p n c)/\In w2 p (L.take n)/\(∀a,p=some a->w.heap.size<=a.block)/\(L.take n).length<=c/\At w2 b g (L.drop n) e/\j6 b w w2
theorem Qc{er:Int}(h:At w b g L er){n:Nat}(hn:n<=L.length):Calls prog 90 #[.pointer (some ⟨b,0,none⟩),.int .i64 (n:Nat)] w (zv5 w b g L er n):=by
 obtain⟨p,c,h1,h2,h3,h4⟩:=h.left;have H:=hid h;have HI:=hid h3;have HS:=hid h4;have hf:=h.fz0;have hn0:(0:Int)<=(n:Int):=by omega
 have hnl:(n:Int)<=(L.length:Int):=by omega
 have hnc:(n:Int)<=(c:Int):=by omega
 clear h h3 h4;go_enter func90,ntmps90
 have HT:RowKit.Hid ((L.take n).length=n):=hid (by rw[length_take];omega);have HF:RowKit.Hid ((L.take n).length<=100000):=hid (by have:=H.out.few;rw[length_take];omega);go_wp2_with(go_at_call 18;(with_reducible refine(zuV (zmE HI.out n) HF.out HT.out).mono ?_);rintro e w1 ⟨p',c',rfl,k1,k2,k3,k4⟩;have K1:=hid k1;have K2:=hid k2;have K3:=hid k3;have K4:=hid k4;have h1':=yx h1 k1;have hf':=zgn h1 hf k1;clear k1 k2 k3 k4)
 .have hln:L.length=n:=by have:=H.out.few;omega
  have hd:L.drop n=[]:=drop_eq_nil_of_le (by omega);have hA:At (w1.setCell ⟨b,0,none⟩ (.slice p (L.length-n) 0)) b g (L.drop n) er:=(H.out.grown K1.out).set (by rw[length_drop]) (by rw[hd];exact Nat.le_refl 0) (by rw[hd];exact zag _ _) HS.out (by rw[hd];exact zero_le _);have hO:j6 b w (w1.setCell ⟨b,0,none⟩ (.slice p (L.length-n) 0)):=(j6.qt K1.out).trans (kL _ _ _ _);have hI:=zbG K3.out (kL b 0 (.slice p (L.length-n) 0) w1) (fun a ha e=>by have:=K4.out a ha;have:=block_lt_of_cell? w _ h1;have:b<w.heap.size:=this;omega);have HAA:=hid (And.intro hA (And.intro hO hI));clear hA hO hI;go_ret
  exact⟨p',c',rfl,HAA.out.2.2,K4.out,K2.out,HAA.out.1,HAA.out.2.1⟩
 .have hA:At (w1.setCell ⟨b,0,none⟩ (.slice (Option.map (fun x=>x.add n) p) (L.length-n) (c-n))) b g (L.drop n) er:=(H.out.grown K1.out).set (by rw[length_drop]) (by rw[length_drop];omega) (Wj (zw4 HI.out n) K1.out) (zsT HS.out n) (by have:=H.out.few;rw[length_drop];omega);have hO:j6 b w (w1.setCell ⟨b,0,none⟩ (.slice (Option.map (fun x=>x.add n) p) (L.length-n) (c-n))):=(j6.qt K1.out).trans (kL _ _ _ _);have hI:=zbG K3.out (kL b 0 (.slice (Option.map (fun x=>x.add n) p) (L.length-n) (c-n)) w1) (fun a ha e=>by have:=K4.out a ha;have:=block_lt_of_cell? w _ h1;have:b<w.heap.size:=this;omega);have HAA:=hid (And.intro hA (And.intro hO hI));clear hA hO hI;go_ret
  exact⟨p',c',rfl,HAA.out.2.2,K4.out,K2.out,HAA.out.1,HAA.out.2.1⟩
end
end RD
end
section
open Go Go.Proofs TR
namespace RD
def OkP(w:World)(b g:Nat)(L:List Nat)(v:Value)(e:Ending)(w2:World):Prop:=e = .returned v/\At w2 b g L 0/\j6 b w w2
def Yw(w:World)(b g:Nat)(L:List Nat)(v:Value)(e:Ending)(w2:World):Prop:=∃er:Int,er≠0/\e = .returned v/\At w2 b g L er/\j6 b w w2
section
variable{w:World}{b g:Nat}{L:List Nat}
theorem zcG(h:At w b g L 0)(hn:num 0 0 L=none):Calls prog 89 #[.pointer (some ⟨b,0,none⟩)] w fun e w2=>e = .returned (.tuple #[.int .u64 0,.int .i64 0])/\w=w2:=by
 obtain⟨p,c,h1,h2,h3,a⟩:=h.left;refine(zaQ h3 h.few h1).mono fun e w2 hp=>?_;rw[hn]at hp;exact⟨hp.2,hp.1.symm⟩
theorem QM(h:At w b g L 0){v n:Nat}(hn:num 0 0 L=some (v,n)):Calls prog 89 #[.pointer (some ⟨b,0,none⟩)] w fun e w2=>e = .returned (.tuple #[.int .u64 (v:Nat),.int .i64 (n:Nat)])/\w=w2:=by
 obtain⟨p,c,h1,h2,h3,a⟩:=h.left;refine(zaQ h3 h.few h1).mono fun e w2 hp=>?_;rw[hn]at hp;exact⟨hp.2,hp.1.symm⟩
theorem zrW{er:Int}(h:At w b g L er)(hn:er≠0)(m:Nat):Calls prog 41 #[.pointer (some ⟨b,0,none⟩),.int .i64 (m:Nat)] w (Yw w b g L (.int .i64 0)):=by
 have H:=hid h;have HN:=hid hn;clear h hn;go_enter func41,ntmps41
 go_wp2_with(go_at_call 87;(with_reducible refine(zcB H.out HN.out).mono ?_);rintro e w1 ⟨rfl,rfl⟩)
 go_ret
 exact⟨er,HN.out,rfl,H.out,j6.refl _ _⟩
theorem zk1(h:At w b g L 0)(hn:num 0 0 L=none){m:Nat}(hb:m<=9000000000000000000):Calls prog 41 #[.pointer (some ⟨b,0,none⟩),.int .i64 (m:Nat)] w (Yw w b g L (.int .i64 0)):=by
 have H:=hid h;clear h;have HN:=hid hn;clear hn;have hm:decide ((m:Int)<0)=false:=decide_eq_false (by omega);go_enter func41,ntmps41
 go_wp2_with(first
  | (go_at_call 87;(with_reducible refine(kD H.out).mono ?_);rintro e w1 ⟨rfl,rfl⟩)
  | (go_at_call 88;(with_reducible refine(ji _).mono ?_);rintro e w1 ⟨rfl,rfl⟩)
  | (go_at_call 88;(with_reducible refine(ym H.out _).mono ?_);rintro e w1 ⟨rfl,h1,h2⟩;have H1:=hid h1;have H2:=hid h2;clear h1 h2)
  | (go_at_call 89;(with_reducible refine(zcG H.out HN.out).mono ?_);rintro e w1 ⟨rfl,rfl⟩))
 go_ret
 exact⟨_,(by decide),rfl,H1.out,H2.out⟩
theorem zoo(h:At w b g L 0){v n m:Nat}(hn:num 0 0 L=some (v,n))(hb:m<=9000000000000000000)(hv:m<v):Calls prog 41 #[.pointer (some ⟨b,0,none⟩),.int .i64 (m:Nat)] w (Yw w b g L (.int .i64 0)):=by
 have H:=hid h;clear h;have HN:=hid hn;have hle:=Xf _ _ _ hn;have hz:((n:Int)==0)=false:=by simp;have:=hle.1;omega
 have hm:decide ((m:Int)<0)=false:=decide_eq_false (by omega);have hw:IntKind.u64.wrap (m:Int)=(m:Int):=u64_in _ (by omega);have hd:decide ((m:Int)<(v:Int))=true:=decide_eq_true (by omega);have hd2:decide (m<v)=true:=decide_eq_true (by omega);clear hn hle;go_enter func41,ntmps41
 go_wp2_with(first
  | (go_at_call 87;(with_reducible refine(kD H.out).mono ?_);rintro e w1 ⟨rfl,rfl⟩)
  | (go_at_call 88;(with_reducible refine(ji _).mono ?_);rintro e w1 ⟨rfl,rfl⟩)
  | (go_at_call 88;(with_reducible refine(ym H.out _).mono ?_);rintro e w1 ⟨rfl,h1,h2⟩;have H1:=hid h1;have H2:=hid h2;clear h1 h2)
  | (go_at_call 89;(with_reducible refine(QM H.out HN.out).mono ?_);rintro e w1 ⟨rfl,rfl⟩))
 go_ret
 exact⟨_,(by decide),rfl,H1.out,H2.out⟩
theorem zrV(h:At w b g L 0){v n m:Nat}(hn:num 0 0 L=some (v,n))(hb:m<=9000000000000000000)(hv:v<=m):Calls prog 41 #[.pointer (some ⟨b,0,none⟩),.int .i64 (m:Nat)] w (OkP w b g (L.drop n) (.int .i64 (v:Nat))):=by
 have H:=hid h;clear h;have HN:=hid hn;have hle:=Xf _ _ _ hn;have hz:((n:Int)==0)=false:=by simp;have:=hle.1;omega
 have hm:decide ((m:Int)<0)=false:=decide_eq_false (by omega);have hw:IntKind.u64.wrap (m:Int)=(m:Int):=u64_in _ (by omega);have hd:decide ((m:Int)<(v:Int))=false:=decide_eq_false (by omega);have hd2:decide (m<v)=false:=decide_eq_false (by omega);have hi:IntKind.i64.wrap (v:Int)=(v:Int):=i64_in _ (by omega);have HLE:RowKit.Hid (n<=L.length):=hid (by have:=hle.2;omega);clear hn hle;go_enter func41,ntmps41
 go_wp2_with(first
  | (go_at_call 87;(with_reducible refine(kD H.out).mono ?_);rintro e w1 ⟨rfl,rfl⟩)
  | (go_at_call 88;(with_reducible refine(ji _).mono ?_);rintro e w1 ⟨rfl,rfl⟩)
  | (go_at_call 89;(with_reducible refine(QM H.out HN.out).mono ?_);rintro e w1 ⟨rfl,rfl⟩)
  | (go_at_call 90;(with_reducible refine(Qc H.out HLE.out).mono ?_);rintro e w2 ⟨p,c,rfl,t1,t2,t3,t4,t5⟩;have T:=hid (And.intro t4 t5);clear t1 t2 t3 t4 t5))
 go_ret
 exact⟨rfl,T.out.1,T.out.2⟩
theorem uint_none(h:At w b g L 0)(hn:num 0 0 L=none){m:Nat}(_hb:m<=9000000000000000000):Calls prog 143 #[.pointer (some ⟨b,0,none⟩),.int .u64 (m:Nat)] w (Yw w b g L (.int .u64 0)):=by
 have H:=hid h;clear h;have HN:=hid hn;clear hn;go_enter func143,ntmps143
 go_wp2_with(first
  | (go_at_call 87;(with_reducible refine(kD H.out).mono ?_);rintro e w1 ⟨rfl,rfl⟩)
  | (go_at_call 88;(with_reducible refine(ji _).mono ?_);rintro e w1 ⟨rfl,rfl⟩)
  | (go_at_call 88;(with_reducible refine(ym H.out _).mono ?_);rintro e w1 ⟨rfl,h1,h2⟩;have H1:=hid h1;have H2:=hid h2;clear h1 h2)
  | (go_at_call 89;(with_reducible refine(zcG H.out HN.out).mono ?_);rintro e w1 ⟨rfl,rfl⟩))
 go_ret
 exact⟨_,(by decide),rfl,H1.out,H2.out⟩
theorem uint_big(h:At w b g L 0){v n m:Nat}(hn:num 0 0 L=some (v,n))(_hb:m<=9000000000000000000)(hv:m<v):Calls prog 143 #[.pointer (some ⟨b,0,none⟩),.int .u64 (m:Nat)] w (Yw w b g L (.int .u64 0)):=by
 have H:=hid h;clear h;have HN:=hid hn;have hle:=Xf _ _ _ hn;have hz:((n:Int)==0)=false:=by simp;have:=hle.1;omega
 have hd:decide ((m:Int)<(v:Int))=true:=decide_eq_true (by omega);have hd2:decide (m<v)=true:=decide_eq_true (by omega);clear hn hle;go_enter func143,ntmps143
 go_wp2_with(first
  | (go_at_call 87;(with_reducible refine(kD H.out).mono ?_);rintro e w1 ⟨rfl,rfl⟩)
  | (go_at_call 88;(with_reducible refine(ji _).mono ?_);rintro e w1 ⟨rfl,rfl⟩)
  | (go_at_call 88;(with_reducible refine(ym H.out _).mono ?_);rintro e w1 ⟨rfl,h1,h2⟩;have H1:=hid h1;have H2:=hid h2;clear h1 h2)
  | (go_at_call 89;(with_reducible refine(QM H.out HN.out).mono ?_);rintro e w1 ⟨rfl,rfl⟩))
 go_ret
 exact⟨_,(by decide),rfl,H1.out,H2.out⟩
theorem uint_ok(h:At w b g L 0){v n m:Nat}(hn:num 0 0 L=some (v,n))(_hb:m<=9000000000000000000)(hv:v<=m):Calls prog 143 #[.pointer (some ⟨b,0,none⟩),.int .u64 (m:Nat)] w (OkP w b g (L.drop n) (.int .u64 (v:Nat))):=by
 have H:=hid h;clear h;have HN:=hid hn;have hle:=Xf _ _ _ hn;have hz:((n:Int)==0)=false:=by simp;have:=hle.1;omega
 have hd:decide ((m:Int)<(v:Int))=false:=decide_eq_false (by omega);have hd2:decide (m<v)=false:=decide_eq_false (by omega);have HLE:RowKit.Hid (n<=L.length):=hid (by have:=hle.2;omega);clear hn hle;go_enter func143,ntmps143
 go_wp2_with(first
  | (go_at_call 87;(with_reducible refine(kD H.out).mono ?_);rintro e w1 ⟨rfl,rfl⟩)
  | (go_at_call 88;(with_reducible refine(ji _).mono ?_);rintro e w1 ⟨rfl,rfl⟩)
  | (go_at_call 89;(with_reducible refine(QM H.out HN.out).mono ?_);rintro e w1 ⟨rfl,rfl⟩)
  | (go_at_call 90;(with_reducible refine(Qc H.out HLE.out).mono ?_);rintro e w2 ⟨p,c,rfl,t1,t2,t3,t4,t5⟩;have T:=hid (And.intro t4 t5);clear t1 t2 t3 t4 t5))
 go_ret
 exact⟨rfl,T.out.1,T.out.2⟩
end
end RD
end
section
open Go Go.Proofs TR
namespace RD
def zxH(w:World)(b g:Nat)(n:Nat)(M L:List Nat)(e:Ending)(w2:World):Prop:=∃p c,e = .returned (.slice p n c)/\M.length=n/\In w2 p M/\(∀a,p=some a->w.heap.size<=a.block)/\M.length<=c/\At w2 b g L 0/\j6 b w w2
section
variable{w:World}{b g:Nat}{L:List Nat}
theorem zr8{er:Int}(h:At w b g L er)(hn:er≠0)(m:Nat):Calls prog 43 #[.pointer (some ⟨b,0,none⟩),.int .i64 (m:Nat)] w (Yw w b g L (.slice none 0 0)):=by
 have H:=hid h;obtain⟨p,c,h1,h2,_,_⟩:=id h.left;clear h;have HN:=hid hn;clear hn;go_enter func43,ntmps43
 go_wp2_with(first
  | (go_at_call 87;(with_reducible refine(zcB H.out HN.out).mono ?_);rintro e w1 ⟨rfl,rfl⟩))
 go_ret
 exact⟨er,HN.out,rfl,H.out,j6.refl _ _⟩
theorem zlg(h:At w b g L 0)(hn:num 0 0 L=none)(m:Nat):Calls prog 43 #[.pointer (some ⟨b,0,none⟩),.int .i64 (m:Nat)] w (Yw w b g L (.slice none 0 0)):=by
 have H:=hid h;obtain⟨p,c,h1,h2,_,_⟩:=id h.left;clear h;have HN:=hid hn;clear hn;have hm:decide ((m:Int)<0)=false:=decide_eq_false (by omega);go_enter func43,ntmps43
 go_wp2_with(first
  | (go_at_call 87;(with_reducible refine(kD H.out).mono ?_);rintro e w1 ⟨rfl,rfl⟩)
  | (go_at_call 88;(with_reducible refine(ji _).mono ?_);rintro e w1 ⟨rfl,rfl⟩)
  | (go_at_call 88;(with_reducible refine(ym H.out _).mono ?_);rintro e w1 ⟨rfl,h1,h2⟩;have H1:=hid h1;have H2:=hid h2;clear h1 h2)
  | (go_at_call 89;(with_reducible refine(zcG H.out HN.out).mono ?_);rintro e w1 ⟨rfl,rfl⟩))
 go_ret
 exact⟨_,(by decide),rfl,H1.out,H2.out⟩
theorem zoB(h:At w b g L 0){v n m:Nat}(hn:num 0 0 L=some (v,n))(hb:m<=1000000)(hv:m<v):Calls prog 43 #[.pointer (some ⟨b,0,none⟩),.int .i64 (m:Nat)] w (Yw w b g L (.slice none 0 0)):=by
 have H:=hid h;obtain⟨p,c,h1,h2,_,_⟩:=id h.left;clear h;have HN:=hid hn;have hle:=Xf _ _ _ hn;have hz:((n:Int)==0)=false:=by simp;have:=hle.1;omega
 have hm:decide ((m:Int)<0)=false:=decide_eq_false (by omega);have hw:IntKind.u64.wrap (m:Int)=(m:Int):=u64_in _ (by omega);have hd:decide ((m:Int)<(v:Int))=true:=decide_eq_true (by omega);have hd2:decide (m<v)=true:=decide_eq_true (by omega);clear hn hle;go_enter func43,ntmps43
 go_wp2_with(first
  | (go_at_call 87;(with_reducible refine(kD H.out).mono ?_);rintro e w1 ⟨rfl,rfl⟩)
  | (go_at_call 88;(with_reducible refine(ji _).mono ?_);rintro e w1 ⟨rfl,rfl⟩)
  | (go_at_call 88;(with_reducible refine(ym H.out _).mono ?_);rintro e w1 ⟨rfl,h1,h2⟩;have H1:=hid h1;have H2:=hid h2;clear h1 h2)
  | (go_at_call 89;(with_reducible refine(QM H.out HN.out).mono ?_);rintro e w1 ⟨rfl,rfl⟩))
 go_ret
 exact⟨_,(by decide),rfl,H1.out,H2.out⟩
theorem zi3(h:At w b g L 0){v n m:Nat}(hn:num 0 0 L=some (v,n))(hb:m<=1000000)(hv:v<=m)(hs:L.length-n<v):Calls prog 43 #[.pointer (some ⟨b,0,none⟩),.int .i64 (m:Nat)] w (Yw w b g L (.slice none 0 0)):=by
 have H:=hid h;obtain⟨p,c,h1,h2,_,_⟩:=id h.left;clear h;have hs0:=hs;clear hs;have HN:=hid hn;have hle:=Xf _ _ _ hn;have hz:((n:Int)==0)=false:=by simp;have:=hle.1;omega
 have hm:decide ((m:Int)<0)=false:=decide_eq_false (by omega);have hw:IntKind.u64.wrap (m:Int)=(m:Int):=u64_in _ (by omega);have hd:decide ((m:Int)<(v:Int))=false:=decide_eq_false (by omega);have hd2:decide (m<v)=false:=decide_eq_false (by omega);have few:=H.out.few;have hs:IntKind.i64.wrap ((L.length:Int)-(n:Int))=((L.length-n:Nat):Int):=by rw[i64_in _ (by have:=hle.2;omega)];have:=hle.2;omega
 have hs2:((L.length:Int)-(n:Int))=((L.length-n:Nat):Int):=by have:=hle.2;omega
 have h64:RowKit.wrap64 ((L.length-n:Nat):Int)=((L.length-n:Nat):Int):=by unfold RowKit.wrap64;omega
 have hu:IntKind.u64.wrap ((L.length-n:Nat):Int)=((L.length-n:Nat):Int):=u64_in _ (by omega);have he:decide (((L.length-n:Nat):Int)<(v:Int))=true:=decide_eq_true (by omega);have he2:decide (L.length-n<v)=true:=decide_eq_true (by omega);clear hn hle few;go_enter func43,ntmps43
 go_wp2_with(first
  | (go_at_call 87;(with_reducible refine(kD H.out).mono ?_);rintro e w1 ⟨rfl,rfl⟩)
  | (go_at_call 88;(with_reducible refine(ji _).mono ?_);rintro e w1 ⟨rfl,rfl⟩)
  | (go_at_call 88;(with_reducible refine(ym H.out _).mono ?_);rintro e w1 ⟨rfl,h1,h2⟩;have H1:=hid h1;have H2:=hid h2;clear h1 h2)
  | (go_at_call 89;(with_reducible refine(QM H.out HN.out).mono ?_);rintro e w1 ⟨rfl,rfl⟩))
 go_ret
 exact⟨_,(by decide),rfl,H1.out,H2.out⟩
theorem zr7(h:At w b g L 0){v n m:Nat}(hn:num 0 0 L=some (v,n))(hb:m<=1000000)(hv:v<=m)(hs:v<=L.length-n):Calls prog 43 #[.pointer (some ⟨b,0,none⟩),.int .i64 (m:Nat)] w (zxH w b g v ((L.drop n).take v) (L.drop (n+v))):=by
 have H:=hid h;obtain⟨p,c,h1,h2,_,_⟩:=id h.left;clear h;have hs0:=hs;clear hs;have HN:=hid hn;have hle:=Xf _ _ _ hn;have hz:((n:Int)==0)=false:=by simp;have:=hle.1;omega
 have hm:decide ((m:Int)<0)=false:=decide_eq_false (by omega);have hw:IntKind.u64.wrap (m:Int)=(m:Int):=u64_in _ (by omega);have hd:decide ((m:Int)<(v:Int))=false:=decide_eq_false (by omega);have hd2:decide (m<v)=false:=decide_eq_false (by omega);have few:=H.out.few;have hs:IntKind.i64.wrap ((L.length:Int)-(n:Int))=((L.length-n:Nat):Int):=by rw[i64_in _ (by have:=hle.2;omega)];have:=hle.2;omega
 have hs2:((L.length:Int)-(n:Int))=((L.length-n:Nat):Int):=by have:=hle.2;omega
 have h64:RowKit.wrap64 ((L.length-n:Nat):Int)=((L.length-n:Nat):Int):=by unfold RowKit.wrap64;omega
 have hu:IntKind.u64.wrap ((L.length-n:Nat):Int)=((L.length-n:Nat):Int):=u64_in _ (by omega);have he:decide (((L.length-n:Nat):Int)<(v:Int))=false:=decide_eq_false (by omega);have he2:decide (L.length-n<v)=false:=decide_eq_false (by omega);have hi:IntKind.i64.wrap (v:Int)=(v:Int):=i64_in _ (by omega);have HLE:RowKit.Hid (n<=L.length):=hid (by have:=hle.2;omega);have HV:RowKit.Hid (v<=(L.drop n).length):=hid (by rw[length_drop];exact hs0);clear hn hle few;go_enter func43,ntmps43
 go_wp2_with(first
  | (go_at_call 87;(with_reducible refine(kD H.out).mono ?_);rintro e w1 ⟨rfl,rfl⟩)
  | (go_at_call 88;(with_reducible refine(ji _).mono ?_);rintro e w1 ⟨rfl,rfl⟩)
  | (go_at_call 89;(with_reducible refine(QM H.out HN.out).mono ?_);rintro e w1 ⟨rfl,rfl⟩)
  | (go_at_call 90;(with_reducible refine(Qc H.out HLE.out).mono ?_);rintro e w2 ⟨p',c',rfl,t1,t2,t3,t4,t5⟩;have T1:=hid t1;have T2:=hid t2;have T3:=hid t3;have T:=hid (And.intro t4 t5);clear t1 t2 t3 t4 t5)
  | (go_at_call 90;(with_reducible refine(Qc T.out.1 HV.out).mono ?_);rintro e w3 ⟨p'',c'',rfl,t1,t2,t3,t4,t5⟩;have S1:=hid t1;have S2:=hid t2;have S3:=hid t3;have S:=hid (And.intro t4 t5);clear t1 t2 t3 t4 t5))
 go_ret
 exact⟨p'',c'',rfl,(by rw[length_take];have:=HV.out;omega),S1.out,fun a ha=>Nat.le_trans T.out.2.size (S2.out a ha),S3.out,(drop_drop ▸ S.out.1:At w3 b g (L.drop (n+v)) 0),T.out.2.trans S.out.2⟩
theorem zwB{er:Int}(h:At w b g L er)(hn:er≠0)(m:Nat):Calls prog 44 #[.pointer (some ⟨b,0,none⟩),.int .i64 (m:Nat)] w (Yw w b g L (.slice none 0 0)):=by
 have H:=hid h;obtain⟨p,c,h1,h2,_,_⟩:=id h.left;clear h;have HN:=hid hn;clear hn;go_enter func44,ntmps44
 go_wp2_with(first
  | (go_at_call 87;(with_reducible refine(zcB H.out HN.out).mono ?_);rintro e w1 ⟨rfl,rfl⟩))
 go_ret
 exact⟨er,HN.out,rfl,H.out,j6.refl _ _⟩
theorem znD(h:At w b g L 0){m:Nat}(hs:L.length<m):Calls prog 44 #[.pointer (some ⟨b,0,none⟩),.int .i64 (m:Nat)] w (Yw w b g L (.slice none 0 0)):=by
 have H:=hid h;obtain⟨p,c,h1,h2,_,_⟩:=id h.left;clear h;have hm:decide ((m:Int)<0)=false:=decide_eq_false (by omega);have he:decide ((L.length:Int)<(m:Int))=true:=decide_eq_true (by omega);have he2:decide (L.length<m)=true:=decide_eq_true (by omega);go_enter func44,ntmps44
 go_wp2_with(first
  | (go_at_call 87;(with_reducible refine(kD H.out).mono ?_);rintro e w1 ⟨rfl,rfl⟩)
  | (go_at_call 88;(with_reducible refine(ji _).mono ?_);rintro e w1 ⟨rfl,rfl⟩)
  | (go_at_call 88;(with_reducible refine(ym H.out _).mono ?_);rintro e w1 ⟨rfl,h1,h2⟩;have H1:=hid h1;have H2:=hid h2;clear h1 h2))
 go_ret
 exact⟨_,(by decide),rfl,H1.out,H2.out⟩
theorem zpS(h:At w b g L 0){n:Nat}(hs:n<=L.length):Calls prog 44 #[.pointer (some ⟨b,0,none⟩),.int .i64 (n:Nat)] w (zxH w b g n (L.take n) (L.drop n)):=by
 have H:=hid h;obtain⟨p,c,h1,h2,_,_⟩:=id h.left;clear h;have hm:decide ((n:Int)<0)=false:=decide_eq_false (by omega);have he:decide ((L.length:Int)<(n:Int))=false:=decide_eq_false (by omega);have he2:decide (L.length<n)=false:=decide_eq_false (by omega);have HLE:=hid hs;clear hs;go_enter func44,ntmps44
 go_wp2_with(first
  | (go_at_call 87;(with_reducible refine(kD H.out).mono ?_);rintro e w1 ⟨rfl,rfl⟩)
  | (go_at_call 88;(with_reducible refine(ji _).mono ?_);rintro e w1 ⟨rfl,rfl⟩)
  | (go_at_call 90;(with_reducible refine(Qc H.out HLE.out).mono ?_);rintro e w2 ⟨p',c',rfl,t1,t2,t3,t4,t5⟩;have T1:=hid t1;have T2:=hid t2;have T3:=hid t3;have T:=hid (And.intro t4 t5);clear t1 t2 t3 t4 t5))
 go_ret
 exact⟨p',c',rfl,(by rw[length_take];have:=HLE.out;omega),T1.out,T2.out,T3.out,T.out.1,T.out.2⟩
theorem zdm{er:Int}(h:At w b g L er):Calls prog 96 #[.pointer (some ⟨b,0,none⟩)] w fun e w2=>e = .returned (.int .i64 er)/\w=w2:=by
 have he:=h.err;clear h;go_enter func96,ntmps96
 go_wp2
 go_ret
 exact⟨rfl,rfl⟩
theorem zkW{er:Int}(h:At w b g L er)(hn:er≠0):Calls prog 45 #[.pointer (some ⟨b,0,none⟩)] w fun e w2=>e = .returned (.int .i64 er)/\w=w2:=by
 have H:=hid h;obtain⟨p,c,h1,h2,_,_⟩:=id h.left;clear h;have HN:=hid hn;clear hn;go_enter func45,ntmps45
 go_wp2_with(first
  | (go_at_call 87;(with_reducible refine(zcB H.out HN.out).mono ?_);rintro e w1 ⟨rfl,rfl⟩)
  | (go_at_call 96;(with_reducible refine(zdm H.out).mono ?_);rintro e w1 ⟨rfl,rfl⟩))
 go_ret
 exact⟨rfl,rfl⟩
theorem zrK(h:At w b g L 0)(hn:0<L.length):Calls prog 45 #[.pointer (some ⟨b,0,none⟩)] w fun e w2=>e = .returned (.int .i64 6)/\w=w2:=by
 have H:=hid h;obtain⟨p,c,h1,h2,_,_⟩:=id h.left;clear h;have he:decide ((0:Int)<(L.length:Int))=true:=decide_eq_true (by omega);go_enter func45,ntmps45
 go_wp2_with(first
  | (go_at_call 87;(with_reducible refine(kD H.out).mono ?_);rintro e w1 ⟨rfl,rfl⟩)
  | (go_at_call 96;(with_reducible refine(zdm H.out).mono ?_);rintro e w1 ⟨rfl,rfl⟩))
 go_ret
 exact⟨rfl,rfl⟩
theorem zrJ(h:At w b g L 0)(hn:L.length=0):Calls prog 45 #[.pointer (some ⟨b,0,none⟩)] w fun e w2=>e = .returned (.int .i64 0)/\w=w2:=by
 have H:=hid h;obtain⟨p,c,h1,h2,_,_⟩:=id h.left;clear h;have he:decide ((0:Int)<(L.length:Int))=false:=decide_eq_false (by omega);go_enter func45,ntmps45
 go_wp2_with(first
  | (go_at_call 87;(with_reducible refine(kD H.out).mono ?_);rintro e w1 ⟨rfl,rfl⟩)
  | (go_at_call 96;(with_reducible refine(zdm H.out).mono ?_);rintro e w1 ⟨rfl,rfl⟩))
 go_ret
 exact⟨rfl,rfl⟩
end
end RD
end
section
open Go Go.Proofs TR
namespace RD
def uintR(m:Nat)(L:List Nat):Option (Nat×List Nat):=match num 0 0 L with|none=>none|some (v,n)=>if v<=m then some (v,L.drop n) else none
def jS(m:Nat)(L:List Nat):Option (List Nat×List Nat):=match num 0 0 L with|none=>none|some (v,n)=>if v<=m/\v<=L.length-n then some ((L.drop n).take v,L.drop (n+v)) else none
def ziM:List Nat->Option (Bool×List Nat)|[]=>none|x::L=>if x<=1 then some (x==1,L) else none
def unzig(u:Nat):Int:=if u % 2=1 then -((u / 2:Nat):Int)-1 else((u / 2:Nat):Int)
def zn6(L:List Nat):Option (Int×List Nat):=match num 0 0 L with|none=>none|some (u,n)=>some (unzig u,L.drop n)
theorem uintR_le{m v:Nat}{L L':List Nat}(h:uintR m L=some (v,L')):v<=m:=by
 unfold uintR at h;split at h
 .cases h
 .split at h
  .cases h;assumption
  .cases h
section
variable{w:World}{b g:Nat}{L:List Nat}
theorem uint_bad(h:At w b g L 0){m:Nat}(hb:m<=9000000000000000000)(a:uintR m L=none):Calls prog 143 #[.pointer (some ⟨b,0,none⟩),.int .u64 (m:Nat)] w (Yw w b g L (.int .u64 0)):=by
 unfold uintR at a;split at a
 .rename_i hn;exact uint_none h hn hb
 .rename_i v n hn;split at a
  .cases a
  .exact uint_big h hn hb (by omega)
theorem uint_good(h:At w b g L 0){m v:Nat}{L':List Nat}(hb:m<=9000000000000000000)(a:uintR m L=some (v,L')):Calls prog 143 #[.pointer (some ⟨b,0,none⟩),.int .u64 (m:Nat)] w (OkP w b g L' (.int .u64 (v:Nat))):=by
 unfold uintR at a;split at a
 .cases a
 .rename_i v n hn;split at a
  .cases a;exact uint_ok h hn hb (by assumption)
  .cases a
theorem zop(h:At w b g L 0){m:Nat}(hb:m<=9000000000000000000)(a:uintR m L=none):Calls prog 41 #[.pointer (some ⟨b,0,none⟩),.int .i64 (m:Nat)] w (Yw w b g L (.int .i64 0)):=by
 unfold uintR at a;split at a
 .rename_i hn;exact zk1 h hn hb
 .rename_i v n hn;split at a
  .cases a
  .exact zoo h hn hb (by omega)
theorem zdt(h:At w b g L 0){m v:Nat}{L':List Nat}(hb:m<=9000000000000000000)(a:uintR m L=some (v,L')):Calls prog 41 #[.pointer (some ⟨b,0,none⟩),.int .i64 (m:Nat)] w (OkP w b g L' (.int .i64 (v:Nat))):=by
 unfold uintR at a;split at a
 .cases a
 .rename_i v n hn;split at a
  .cases a;exact zrV h hn hb (by assumption)
  .cases a
theorem zoC(h:At w b g L 0){m:Nat}(hb:m<=1000000)(a:jS m L=none):Calls prog 43 #[.pointer (some ⟨b,0,none⟩),.int .i64 (m:Nat)] w (Yw w b g L (.slice none 0 0)):=by
 unfold jS at a;split at a
 .rename_i hn;exact zlg h hn m
 .rename_i v n hn;split at a
  .cases a
  .rename_i hc;by_cases hv:v<=m
   .exact zi3 h hn hb hv (by omega)
   .exact zoB h hn hb (by omega)
theorem zdH(h:At w b g L 0){m:Nat}{M L':List Nat}(hb:m<=1000000)(a:jS m L=some (M,L')):Calls prog 43 #[.pointer (some ⟨b,0,none⟩),.int .i64 (m:Nat)] w (zxH w b g M.length M L'):=by
 unfold jS at a;split at a
 .cases a
 .rename_i v n hn;split at a
  .rename_i hc;cases a;have hl:((L.drop n).take v).length=v:=by rw[length_take,length_drop];omega
   rw[hl];exact zr7 h hn hb hc.1 hc.2
  .cases a
theorem ztg{er:Int}(h:At w b g L er)(hn:er≠0)(m:Nat):Calls prog 91 #[.pointer (some ⟨b,0,none⟩),.int .i64 (m:Nat)] w (Yw w b g L (.int .i64 0)):=by
 have H:=hid h;obtain⟨p,c,h1,h2,_,_⟩:=id h.left;clear h;have HN:=hid hn;clear hn;go_enter func91,ntmps91
 go_wp2_with(first
  | (go_at_call 87;(with_reducible refine(zcB H.out HN.out).mono ?_);rintro e w1 ⟨rfl,rfl⟩))
 go_ret
 exact⟨er,HN.out,rfl,H.out,j6.refl _ _⟩
theorem zql(h:At w b g L 0){m:Nat}(hb:m<=9000000000000000000)(hr:uintR m L=none):Calls prog 91 #[.pointer (some ⟨b,0,none⟩),.int .i64 (m:Nat)] w (Yw w b g L (.int .i64 0)):=by
 have H:=hid h;obtain⟨p,c,h1,h2,_,_⟩:=id h.left;clear h;have HN:=hid hr;have HB:=hid hb;have hm:decide ((m:Int)<0)=false:=decide_eq_false (by omega);have hw:IntKind.u64.wrap (m:Int)=(m:Int):=u64_in _ (by omega);clear hr hb;go_enter func91,ntmps91
 go_wp2_with(first
  | (go_at_call 87;(with_reducible refine(kD H.out).mono ?_);rintro e w1 ⟨rfl,rfl⟩)
  | (go_at_call 88;(with_reducible refine(ji _).mono ?_);rintro e w1 ⟨rfl,rfl⟩)
  | (go_at_call 143;(with_reducible refine(uint_bad H.out HB.out HN.out).mono ?_);rintro e w1 ⟨er,h0,rfl,h1,h2⟩;have H0:=hid h0;have H1:=hid h1;have H2:=hid h2;clear h0 h1 h2))
 go_ret
 exact⟨er,H0.out,rfl,H1.out,H2.out⟩
theorem zeR(h:At w b g L 0){m v:Nat}{L':List Nat}(hb:m<=9000000000000000000)(hr:uintR m L=some (v,L')):Calls prog 91 #[.pointer (some ⟨b,0,none⟩),.int .i64 (m:Nat)] w (OkP w b g L' (.int .i64 (v:Nat))):=by
 have H:=hid h;obtain⟨p,c,h1,h2,_,_⟩:=id h.left;clear h;have HN:=hid hr;have HB:=hid hb;have hm:decide ((m:Int)<0)=false:=decide_eq_false (by omega);have hw:IntKind.u64.wrap (m:Int)=(m:Int):=u64_in _ (by omega);have hv:=uintR_le hr;have hi:IntKind.i64.wrap (v:Int)=(v:Int):=i64_in _ (by omega);clear hr hb hv;go_enter func91,ntmps91
 go_wp2_with(first
  | (go_at_call 87;(with_reducible refine(kD H.out).mono ?_);rintro e w1 ⟨rfl,rfl⟩)
  | (go_at_call 88;(with_reducible refine(ji _).mono ?_);rintro e w1 ⟨rfl,rfl⟩)
  | (go_at_call 143;(with_reducible refine(uint_good H.out HB.out HN.out).mono ?_);rintro e w1 ⟨rfl,h1,h2⟩;have H1:=hid h1;have H2:=hid h2;clear h1 h2))
 go_ret
 exact⟨rfl,H1.out,H2.out⟩
end
end RD
end
section
open Go Go.Proofs TR
namespace RD
theorem u5:Tryz.prog.underlying 5=some (.int .u8):=by kernel_rfl
theorem u9:Tryz.prog.underlying 9=some .string:=by kernel_rfl
theorem ziT(w:World)(p:Option Addr)(c:Nat):(convert 51 9 (.slice p 0 c)).run prog w = .ok (.string (str [])) w:=by
 rw[run_convert_bytes_string w 51 9 5 p 0 c under51 u5 u9];cases p<;>simp[Conv.bytesToString,str]<;>rfl
theorem zrX{w:World}{p:Option Addr}{M:List Nat}{n:Nat}(c:Nat)(h:In w p M)(hn:M.length=n):(convert 51 9 (.slice p n c)).run prog w = .ok (.string (str M)) w:=by
 subst hn;by_cases d:M=[]
 .subst d;exact ziT w p c
 .obtain⟨b,o,rfl,hc⟩:=h.2 d
  have:=run_convert_bytes_back (P:=prog) w 51 9 5 ⟨b,o,none⟩ c (M.map UInt8.ofNat) under51 u5 u9 (fun j e=>by
   rw[Addr.add_lit];have a:j<M.length:=by simpa using e
   rw[hc j M[j] (List.getElem?_eq_getElem a),List.getElem_map,toNat_ofNat',mod_eq_of_lt (h.1 _ (List.getElem_mem a))])
  rw[length_map]at this;exact this
section
variable{w:World}{b g:Nat}{L:List Nat}
theorem znn{er:Int}(h:At w b g L er)(hn:er≠0)(m:Nat):Calls prog 92 #[.pointer (some ⟨b,0,none⟩),.int .i64 (m:Nat)] w (Yw w b g L (.string (str []))):=by
 have H:=hid h;obtain⟨p,c,h1,h2,_,_⟩:=id h.left;clear h;have HN:=hid hn;clear hn;go_enter func92,ntmps92
 go_wp2_with(first
  | (go_at_call 43;(with_reducible refine(zr8 H.out HN.out _).mono ?_);rintro e w1 ⟨er,h0,rfl,k1,k2⟩;have hcv:=ziT w1 none 0;have H0:=hid h0;have H1:=hid k1;have H2:=hid k2;clear h0 k1 k2))
 go_ret
 exact⟨er,H0.out,rfl,H1.out,H2.out⟩
theorem zhm(h:At w b g L 0){m:Nat}{M L':List Nat}(hb:m<=1000000)(hr:jS m L=some (M,L')):Calls prog 92 #[.pointer (some ⟨b,0,none⟩),.int .i64 (m:Nat)] w (OkP w b g L' (.string (str M))):=by
 have H:=hid h;obtain⟨p,c,h1,h2,_,_⟩:=id h.left;clear h;have HN:=hid hr;have HB:=hid hb;clear hr hb;go_enter func92,ntmps92
 go_wp2_with(first
  | (go_at_call 43;(with_reducible refine(zdH H.out HB.out HN.out).mono ?_);rintro e w1 ⟨p',c',rfl,k0,k1,k2,k3,k4,k5⟩;have hcv:=zrX c' k1 k0;have K:=hid (And.intro k4 k5);clear k0 k1 k2 k3 k4 k5))
 go_ret
 exact⟨rfl,K.out.1,K.out.2⟩
theorem ztZ{er:Int}(h:At w b g L er)(hn:er≠0):Calls prog 94 #[.pointer (some ⟨b,0,none⟩)] w (Yw w b g L (.bool false)):=by
 have H:=hid h;obtain⟨p,c,h1,h2,_,_⟩:=id h.left;clear h;have HN:=hid hn;clear hn;go_enter func94,ntmps94
 go_wp2_with(first
  | (go_at_call 87;(with_reducible refine(zcB H.out HN.out).mono ?_);rintro e w1 ⟨rfl,rfl⟩))
 go_ret
 exact⟨er,HN.out,rfl,H.out,j6.refl _ _⟩
theorem front{x:Nat}{L':List Nat}(h:At w b g (x::L') 0):∃g o c,w.cell? ⟨b,0,none⟩=some (.slice (some ⟨g,o,none⟩) (L'.length+1) c)/\w.cell? ⟨g,o,none⟩=some (.int .u8 (x:Nat))/\x<256/\(L'.length:Int)+1<=(c:Int):=by
 obtain⟨p,c,h1,h2,h3,a⟩:=h.left;obtain⟨g,o,rfl,hc⟩:=h3.2 (by simp);exact⟨g,o,c,h1,hc 0 x rfl,h3.1 x mem_cons_self,by have:L'.length+1<=c:=h2;omega⟩
theorem zxX{x:Nat}{L':List Nat}(h:At w b g (x::L') 0):Calls prog 90 #[.pointer (some ⟨b,0,none⟩),.int .i64 1] w (zv5 w b g (x::L') 0 1):=Qc (n:=1) h (by simp)
theorem zog{x:Nat}{L':List Nat}(h:At w b g (x::L') 0)(hx:x<=1):Calls prog 94 #[.pointer (some ⟨b,0,none⟩)] w (OkP w b g L' (.bool ((x:Int)==1))):=by
 have H:=hid h;obtain⟨g,o,c,h1,h2,h3,h4⟩:=front h;have hd:decide ((1:Int)<(x:Int))=false:=decide_eq_false (by omega);have hz:(((L'.length:Int)+1)==0)=false:=by simp;omega
 clear h;go_enter func94,ntmps94
 go_wp2_with(first
  | (go_at_call 87;(with_reducible refine(kD H.out).mono ?_);rintro e w1 ⟨rfl,rfl⟩)
  | (go_at_call 88;(with_reducible refine(ji _).mono ?_);rintro e w1 ⟨rfl,rfl⟩)
  | (go_at_call 90;(with_reducible refine(zxX H.out).mono ?_);rintro e w2 ⟨p',c',rfl,t1,t2,t3,t4,t5⟩;obtain⟨g',o',rfl,q0⟩:=t1.2 (by simp);have hq:w2.cell? ⟨g',o',none⟩=some (.int .u8 (x:Nat)):=q0 0 x rfl;clear q0;have T:=hid (And.intro t4 t5);clear t1 t2 t3 t4 t5))
 go_ret
 exact⟨rfl,T.out.1,T.out.2⟩
end
end RD
end
section
open Go Go.Proofs TR
namespace RD
theorem zqn:∀(l:List Nat) (v k:Nat) {r:Nat×Nat},num v k l=some r->r.1<18446744073709551616
 | [],_,_,_,h=>by cases h
 | b::l,v,k,r,h=>by
  rw[num.eq_2]at h;split at h
  .cases h
  .split at h
   .cases h;show v*128+b % 128<_;omega
   .exact zqn l _ _ h
theorem zmp{u:Nat}(d:u<18446744073709551616):bits .and .u64 (u:Int) 1=((u % 2:Nat):Int):=by
 have:=bits_mask .u64 64 (by decide) (fun n e h1=>u64_in n (by omega)) 1 (by decide) (u:Int) (by omega) (by omega);have c:((2:Int) ^ 1-1)=1:=by decide
 have a:((2:Int) ^ 1)=2:=by decide
 rw[c,a]at this;rw[this];omega
theorem unzig_odd{u:Nat}(a:u<18446744073709551616)(h:(bits .and .u64 (u:Int) 1==1)=true):unzig u = -((u:Int) / 2)-1:=by
 rw[zmp a,beq_iff_eq]at h;unfold unzig;rw[if_pos (by omega)];omega
theorem unzig_even{u:Nat}(a:u<18446744073709551616)(h:(bits .and .u64 (u:Int) 1==1)=false):unzig u=(u:Int) / 2:=by
 rw[zmp a,beq_eq_false_iff_ne]at h;unfold unzig;rw[if_neg (by omega)];omega
section
variable{w:World}{b g:Nat}{L:List Nat}
theorem zw0{er:Int}(h:At w b g L er)(hn:er≠0):Calls prog 93 #[.pointer (some ⟨b,0,none⟩),.int .i64 (-9223372036854775808),.int .i64 9223372036854775807] w (Yw w b g L (.int .i64 0)):=by
 have H:=hid h;obtain⟨p,c,h1,h2,_,_⟩:=id h.left;clear h;have HN:=hid hn;clear hn;go_enter func93,ntmps93
 go_wp2_with(first
  | (go_at_call 87;(with_reducible refine(zcB H.out HN.out).mono ?_);rintro e w1 ⟨rfl,rfl⟩))
 go_ret
 exact⟨er,HN.out,rfl,H.out,j6.refl _ _⟩
theorem zrd(h:At w b g L 0){u n:Nat}(hn:num 0 0 L=some (u,n)):Calls prog 93 #[.pointer (some ⟨b,0,none⟩),.int .i64 (-9223372036854775808),.int .i64 9223372036854775807] w (OkP w b g (L.drop n) (.int .i64 (unzig u))):=by
 have H:=hid h;obtain⟨p,c,h1,h2,_,_⟩:=id h.left;clear h;have HN:=hid hn;have hle:=Xf _ _ _ hn;have hu:=zqn _ _ _ hn;have hz:((n:Int)==0)=false:=by simp;have:=hle.1;omega
 have HLE:RowKit.Hid (n<=L.length):=hid (by have:=hle.2;omega);have e1:decide (-((u:Int) / 2)-1 < -9223372036854775808)=false:=decide_eq_false (by omega);have e2:decide ((9223372036854775807:Int) < -((u:Int) / 2)-1)=false:=decide_eq_false (by omega);have e3:decide ((u:Int) / 2 < -9223372036854775808)=false:=decide_eq_false (by omega);have e4:decide ((9223372036854775807:Int)<(u:Int) / 2)=false:=decide_eq_false (by omega);clear hn hle;go_enter func93,ntmps93
 go_wp2_with(first
  | (go_at_call 87;(with_reducible refine(kD H.out).mono ?_);rintro e w1 ⟨rfl,rfl⟩)
  | (go_at_call 88;(with_reducible refine(ji _).mono ?_);rintro e w1 ⟨rfl,rfl⟩)
  | (go_at_call 89;(with_reducible refine(QM H.out HN.out).mono ?_);rintro e w1 ⟨rfl,rfl⟩)
  | (go_at_call 90;(with_reducible refine(Qc H.out HLE.out).mono ?_);rintro e w2 ⟨p',c',rfl,t1,t2,t3,t4,t5⟩;have T1:=hid t1;have T2:=hid t2;have T3:=hid t3;have T:=hid (And.intro t4 t5);clear t1 t2 t3 t4 t5))
 .rename_i hh;have hU:=hid (unzig_odd hu hh);clear hh;go_ret
  exact⟨(by rw[hU.out];rfl),T.out.1,T.out.2⟩
 .rename_i hh;have hU:=hid (unzig_even hu hh);clear hh;go_ret
  exact⟨(by rw[hU.out];rfl),T.out.1,T.out.2⟩
theorem zre(h:At w b g L 0){v:Int}{L':List Nat}(a:zn6 L=some (v,L')):Calls prog 93 #[.pointer (some ⟨b,0,none⟩),.int .i64 (-9223372036854775808),.int .i64 9223372036854775807] w (OkP w b g L' (.int .i64 v)):=by
 unfold zn6 at a;split at a
 .cases a
 .rename_i u n hn;cases a;exact zrd h hn
theorem zyU{p:Option Addr}{m n:Nat}(h1:∀a,p=some a->m<=a.block)(h2:∀a,p=some a->a.block<n)(c:m<=n):∃g,m<=g/\g≠n/\g≠n+1/\∀a,p=some a->a.block=g:=by
 cases p with
 | none=>exact⟨n+2,by omega,by omega,by omega,fun a d=>(by cases d)⟩
 | some a=>exact⟨a.block,h1 a rfl,by have:=h2 a rfl;omega,by have:=h2 a rfl;omega,fun x hx=>by cases hx;rfl⟩
theorem zwS{w:World}{p:Option Addr}{c:Nat}(e:g≠w.heap.size)(hs:∀a,p=some a->a.block=g)(hi:In w p L)(hc:L.length<=c)(hlen:L.length<=100000):At (w.alloc (.cells #[.slice p L.length c,.int .i64 0] 176)) w.heap.size g L 0:=by
 have d:(w.alloc (.cells #[.slice p L.length c,.int .i64 0] 176)).heap[w.heap.size]?=some (.cells #[.slice p L.length c,.int .i64 0] 176 (0,0)):=heap_alloc_new w _;refine⟨⟨p,c,?_,hc,Wj hi (zE w _),hs⟩,e,?_,?_,?_,hlen⟩
 .unfold World.cell?;rw[d];rfl
 .unfold World.cell?;rw[d];rfl
 .unfold World.frozen?;rw[d];rfl
 .unfold World.frozen?;rw[d];rfl
def zoQ(w:World)(L:List Nat)(e:Ending)(w2:World):Prop:=∃b g,e = .returned (.pointer (some ⟨b,0,none⟩))/\w.heap.size<=b/\w.heap.size<=g/\g≠w2.heap.size/\At w2 b g L 0/\Grown w w2/\Ty w2 b
theorem VN{p:Option Addr}{c:Nat}(hL:In w p L)(hlen:L.length<=100000):Calls prog 40 #[.slice p L.length c] w (zoQ w L):=by
 have HL:=hid hL;have HE:=hid hlen;clear hL hlen;go_enter func40,ntmps40
 go_wp2_with(go_at_call 18;(with_reducible refine(zbf HL.out HE.out).mono ?_);rintro e w1 ⟨p',c',rfl,k1,k2,k3,k4,k5⟩;have K5:=hid k5;have K1:=hid k1;have K2:=hid k2;have K3:=hid k3;have K4:=hid k4;clear k1 k2 k3 k4 k5)
 go_ret
 obtain⟨g,g1,g2,g4,g3⟩:=zyU K4.out K5.out K1.out.size;exact⟨w1.heap.size,g,rfl,K1.out.size,g1,by unfold World.alloc;rw[Array.size_push];exact g4,zwS g2 g3 K3.out K2.out HE.out,K1.out.trans' (zE w1 _),_,_,heap_alloc_new w1 _⟩
end
end RD
end
section
open Go.AuditPlain (hi put qA zt qk qb numbers zig)
namespace RD
theorem jG:hi 0=[]:=by rw[hi];simp
theorem Xm{u:Nat}(h:u≠0):hi u=hi (u / 128)++[u % 128+128]:=by rw[hi];simp[h]
theorem zqm{v k x:Nat}{l:List Nat}(h1:¬(k=0/\x=128))(h2:v<=144115188075855871)(h3:¬x<128):num v k (x::l)=num (v*128+x % 128) (k+1) l:=by
 rw[num.eq_2,if_neg (by omega),if_neg h3]
theorem zqp{v k x:Nat}{l:List Nat}(_h1:¬(k=0/\x=128))(h2:v<=144115188075855871)(h3:x<128):num v k (x::l)=some (v*128+x % 128,k+1):=by
 rw[num.eq_2,if_neg (by omega),if_pos h3]
theorem zw6{u:Nat}(h:(hi u).length=0):u=0:=by
 by_cases a:u=0
 .exact a
 .rw[Xm a]at h;simp at h
theorem zqo:∀(u:Nat) (l:List Nat),u<=144115188075855871->num 0 0 (hi u++l)=num u (hi u).length l:=by
 intro u
 induction u using Nat.strongRecOn with
 | ind u a=>
  intro l b;by_cases h:u=0
  .subst h;rw[jG];rfl
  .have e:(hi u).length=(hi (u / 128)).length+1:=by rw[Xm h,length_append];rfl
   rw[e,Xm h,List.append_assoc,a (u / 128) (div_lt_self (Nat.pos_of_ne_zero h) (by decide)) _ (by omega)];show num (u / 128) (hi (u / 128)).length ((u % 128+128)::l)=_;rw[zqm (fun hh=>?_) (by omega) (by omega)]
   .congr 1
    omega
   .have:=zw6 hh.1;omega
theorem KK{v:Nat}(hv:v<18446744073709551616)(l:List Nat):num 0 0 (put v++l)=some (v,(put v).length):=by
 unfold put;rw[List.append_assoc,zqo _ _ (by omega)];show num (v / 128) (hi (v / 128)).length (v % 128::l)=_;rw[zqp (by omega) (by omega) (by omega),length_append];congr 2
 omega
theorem zkq:∀(u:Nat),u<=144115188075855871->∀j,j<=(hi u).length->num 0 0 ((hi u).take j)=none:=by
 intro u
 induction u using Nat.strongRecOn with
 | ind u c=>
  intro d j f;by_cases h:u=0
  .subst h;rw[jG,take_nil];rfl
  .have b:=div_lt_self (Nat.pos_of_ne_zero h) (show 1<128 by decide);have e:(hi u).length=(hi (u / 128)).length+1:=by rw[Xm h,length_append];rfl
   by_cases a:j<=(hi (u / 128)).length
   .rw[Xm h,take_append_of_le_length a];exact c _ b (by omega) j a
   .rw[take_of_length_le (by omega)];have:=zqo u [] d;rw[append_nil]at this;rw[this];rfl
theorem zmi{v:Nat}(hv:v<18446744073709551616){j:Nat}(a:j<(put v).length):num 0 0 ((put v).take j)=none:=by
 unfold put at a ⊢;rw[length_append]at a;rw[take_append_of_le_length (by simp at a;omega)];exact zkq _ (by omega) _ (by simp at a;omega)
theorem uint_put{v m:Nat}(hv:v<=m)(hm:m<18446744073709551616)(l:List Nat):uintR m (put v++l)=some (v,l):=by
 unfold uintR;rw[KK (by omega)];simp[hv]
theorem Jp{s:List Nat}{m:Nat}(hs:s.length<=m)(hm:m<=1000000)(l:List Nat):jS m (zt s++l)=some (s,l):=by
 unfold jS zt;rw[List.append_assoc,KK (by omega)];simp only[length_append];rw[if_pos ⟨hs,by omega⟩,drop_left,take_left];congr 2
 rw[<- List.append_assoc,drop_append_of_le_length (by simp)];rw[drop_of_length_le (by simp)];rfl
theorem zoA{s:List Nat}{m:Nat}(hs:s.length<=m)(hm:m<=1000000){j:Nat}(a:j<(zt s).length):jS m ((zt s).take j)=none:=by
 unfold jS zt at *;rw[length_append]at a;by_cases h:j<(put s.length).length
 .rw[take_append_of_le_length (by omega),zmi (by omega) h]
 .rw[take_append,take_of_length_le (by omega),KK (by omega)];simp only[length_append,length_take];rw[if_neg (by omega)]
theorem ztG{n:Int}(hn:-9223372036854775808<=n/\n<=9223372036854775807)(l:List Nat):zn6 (qA n++l)=some (n,l):=by
 unfold zn6 qA;have a:zig n<18446744073709551616:=by unfold zig;split<;>omega
 rw[KK a];have:unzig (zig n)=n:=by unfold unzig zig;split<;>split<;>omega
 simp[this]
theorem ziL(b:Bool)(l:List Nat):ziM (qk b++l)=some (b,l):=by cases b<;>rfl
end RD
end
section
open Go Go.Proofs TR
open Go.AuditPlain (hi put qA zt qk qb numbers zig)
namespace RD
def Vr(l:List Nat):List Value:=l.map fun n=>.int .i64 (n:Nat)
theorem km(l:List Nat):(Vr l).length=l.length:=by unfold Vr;rw[length_map]
theorem zc8(l:List Nat)(n:Nat):Vr (l++[n])=Vr l++[.int .i64 (n:Nat)]:=by unfold Vr;rw[List.map_append];rfl
def yb(B:Nat)(w:World)(v:Value)(l:List Nat):Prop:=
 (l=[]->v = .slice none 0 0)/\(l≠[]->∃x:Nat×Nat×Nat,v = .slice (some ⟨x.1,x.2.1,none⟩) l.length (l.length+x.2.2)/\zw prog w x 3 (Vr l)/\B<=x.1)
theorem under36:Tryz.prog.underlying 36=some (.slice 3):=by kernel_rfl
theorem zsI(w:World){ops:Array Oper}{rest:List Oper}{o:Oper}{a:Act}{Q:Exit->Act->World->Prop}(s x:Operand)(b:Nat){B:Nat}{l:List Nat}{n:Nat}
  (hg:o.guard=none) (hop:o.op=Op.call { callee:=Callee.builtin Builtin.append,args:=#[s,x],argTypes:=#[36,36] }) (hrows:yb B w (a.eval s) l) (few:l.length<=1000) (hB:B<=w.heap.size)
  (hx:a.eval x = .slice (some ⟨b,0,none⟩) 1 1) (hc0:w.cell? ⟨b,0,none⟩=some (.int .i64 (n:Nat)))
  (hK:∀q c w',yb B w' (.slice (some q) (l.length+1) c) (l++[n])->(∀i,i<B->w'.heap[i]?=w.heap[i]?)->w.heap.size<=w'.heap.size->w'.tape=w.tape->w'.os=w.os->w'.output=w.output->wpList prog ops Q rest (a.put o.dst (.slice (some q) (l.length+1) c)) w') :
  wpList prog ops Q (o::rest) a w:=by
 obtain⟨i,hi⟩:∃i,Tryz.prog.info? 3=some i:=Option.isSome_iff_exists.1 (by kernel_rfl);have r:(Tryz.prog.info? 3).map (·.size)=some 1:=by kernel_rfl
 have k2:(Tryz.prog.info? 3).map (fun i=>Nat.ble i.bytes 1000)=some true:=by kernel_rfl
 have k3:((Tryz.prog.info? 3).bind (·.zero)).map (fun z=>z.cells.size)=some 1:=by kernel_rfl
 rw[hi]at r k2 k3;have r:i.size=1:=Option.some.inj r;have k2:i.bytes<=1000:=Nat.ble_eq.mp (Option.some.inj k2);obtain⟨z,D,t⟩:=Option.map_eq_some_iff.1 k3;have D:i.zero=some z:=D;have A:(l.length+1)*i.bytes<=140737488355328:=Nat.le_trans (Nat.mul_le_mul (show l.length+1<=1001 by omega) k2) (by decide);have C:l.length+1<=maxLen:=by unfold maxLen;omega
 have hc:∀(j:Nat) (u:Value),([.int .i64 (n:Nat)]:List Value)[j]?=some u->w.cell? ((⟨b,0,none⟩:Addr).add j)=some u:=by
  intro j u d;rw[Addr.add_lit]
  cases j with
  | zero=>cases d;exact hc0
  | succ j=>cases d
 have k:∀u∈([.int .i64 (n:Nat)]:List Value),u.oneCell'=true:=by
  intro u M;rw[List.mem_singleton]at M;subst M;rfl
 have grown:∀G w',w'.ownsRow w.heap.size 3 1 G (l.length+1) (Vr l++[.int .i64 (n:Nat)])->w.grownBy w' none->wpList prog ops Q rest (a.put o.dst G) w':=by
  intro G w' T e;obtain⟨_,⟨_,h0⟩|⟨g,cap,cur,rfl,h1,h2,h3,_,X,U⟩⟩:=T
  .omega
  .refine hK _ _ w' ⟨fun h=>absurd (congrArg List.length h) (by simp),fun _=>⟨(g,0,cap-(l.length+1)),?_,⟨cur,(0,0),h2,?_,fun i _ h=>by omega,Nat.dvd_zero _,fun j d=>?_⟩,Nat.le_trans hB h1⟩⟩ (fun c hc=>e.block c (by omega) (by simp)) e.size e.tape e.os e.output
   .rw[length_append,show l.length+[n].length+(cap-(l.length+1))=cap by simp;omega];rfl
   .rw[km,XK,length_append,X];show 0+(l.length+1)+(cap-(l.length+1))*1<=cap*1;omega
   .rw[zc8,<- U]at d ⊢;rw[Nat.zero_add,getElem?_take,if_pos (by rw[length_take]at d;omega),getElem?_toList]
 by_cases he:l=[]
 .subst he;have hs:a.eval s = .slice none 0 0:=hrows.1 rfl;exact wpList_append_grows w hg s x 36 hop 3 i z 1 i.bytes under36 hi D r rfl t (by decide) none 0 0 [] hs (fun _=>⟨rfl,rfl⟩) rfl (fun b h=>by cases h) _ 1 1 _ hx rfl hc k (by decide) C A grown
 .obtain⟨y,hs,f,I⟩:=hrows.2 he;have p:=f;obtain⟨arr,fz,H,O,L,N,r5⟩:=p;rw[km,XK]at O;have hold:∀(j:Nat) (u:Value),(Vr l)[j]?=some u->w.cell? ⟨y.1,y.2.1+j,none⟩=some u:=fun j u d=>TR.cell_of_row f d;refine wpList_append_arg w hg s x 36 hop 3 i z 1 i.bytes under36 hi D r rfl t (by decide) y.1 y.2.1 l.length (l.length+y.2.2) (Vr l) hs (by rw[km,Nat.mul_one]) hold _ 1 1 _ hx rfl hc k (fun P j d=>?_) C A (fun P=>?_) fun _=>grown
  .have d:j<1:=d;have v:y.2.1+l.length*1+j<arr.size:=by omega
   refine⟨?_,?_⟩
   .unfold World.cell?;rw[H];show(arr[y.2.1+l.length*1+j]?).isSome=true;rw[Array.getElem?_eq_getElem v];rfl
   .unfold World.frozen?;rw[H];have:=L _ v;show(decide (fz.1<=y.2.1+l.length*1+j)&&decide (y.2.1+l.length*1+j<fz.2))=false;rw[Bool.and_eq_false_iff,decide_eq_false_iff_not,decide_eq_false_iff_not];omega
  .have J:y.2.1+l.length*1+([.int .i64 (n:Nat)]:List Value).length<=arr.size:=by show y.2.1+l.length*1+1<=arr.size;omega
   obtain⟨m,g1,g2,Z,Y⟩:=ky y.1 [.int .i64 (n:Nat)] (y.2.1+l.length*1) w arr 3 fz H J;refine hK _ _ _ ⟨fun h=>absurd (congrArg List.length h) (by simp),fun _=>⟨(y.1,y.2.1,y.2.2-1),?_,⟨m,fz,g1,?_,fun i hi=>L i (by omega),N,fun j d=>?_⟩,I⟩⟩ (fun c hc=>?_) ?_ (kQ _ _ _ _) ?_ ?_
   .rw[length_append,show l.length+[n].length+(y.2.2-1)=l.length+y.2.2 by simp;omega];rfl
   .rw[km,XK,length_append,g2];show y.2.1+(l.length+1)+(y.2.2-1)*1<=arr.size;omega
   .rw[zc8];rw[km,length_append]at d;have d:j<l.length+1:=d;show m[y.2.1+j]?=_;rcases Nat.lt_or_ge j l.length with h|h
    .rw[List.getElem?_append_left (by rw[km];exact h),Y _ (by omega)];exact r5 j (by rw[km];exact h)
    .have K:j=l.length:=by omega
     subst K;rw[List.getElem?_append_right (by rw[km];exact Nat.le_refl _),km,Nat.sub_self];have:=Z 0 Nat.zero_lt_one;rw[Nat.add_zero,Nat.mul_one]at this;exact this
   .refine heap_setCells_other w _ _ _ (Nat.lt_of_lt_of_le hc hB) (by omega)
   .rw[kR];exact Nat.le_refl _
   .exact os_setCells _ _ _ _
   .exact output_setCells _ _ _ _
end RD
end
section
open Go Go.Proofs TR
open Go.AuditPlain (hi put qA zt qk numbers zig)
namespace RD
theorem At.other{w w2:World}{b g:Nat}{L:List Nat}{e:Int}(h:At w b g L e)(hb:w2.heap[b]?=w.heap[b]?)(j:w2.heap[g]?=w.heap[g]?):At w2 b g L e:=by
 obtain⟨p,c,h1,h2,h3,f⟩:=h.left;refine⟨⟨p,c,by rw[cell?_of_block (a:=⟨b,0,none⟩) hb];exact h1,h2,⟨h3.1,fun hn=>?_⟩,f⟩,h.sep,by rw[cell?_of_block (a:=⟨b,1,none⟩) hb];exact h.err,by rw[frozen?_of_block (a:=⟨b,0,none⟩) hb];exact h.fz0,by rw[frozen?_of_block (a:=⟨b,1,none⟩) hb];exact h.fz1,h.few⟩;obtain⟨b',o,rfl,hc⟩:=h3.2 hn;refine⟨b',o,rfl,fun i x hi=>?_⟩;have d:b'=g:=f _ rfl;subst d;rw[cell?_of_block (a:=⟨b',o+i,none⟩) j];exact hc i x hi
theorem WW{B b:Nat}{w w2:World}{v:Value}{l:List Nat}(h:yb B w v l)(hb:b<B)(k:j6 b w w2):yb B w2 v l:=by
 refine⟨h.1,fun hn=>?_⟩;obtain⟨x,e,a,hx⟩:=h.2 hn;exact⟨x,e,@zw.heap unk0 _ _ _ _ _ _ a (k.old _ (zw.lt a) (by omega)),hx⟩
theorem zkF{B:Nat}{w w2:World}{v:Value}{l:List Nat}(h:yb B w v l)(k:Grown w w2):yb B w2 v l:=by
 refine⟨h.1,fun hn=>?_⟩;obtain⟨x,e,a,hx⟩:=h.2 hn;exact⟨x,e,kU k a,hx⟩
theorem zuS{w:World}{b g:Nat}{L L':List Nat}{v:Nat}(h:At w b g L 0)(a:uintR 63 L=some (v,L')):Calls prog 41 #[.pointer (some ⟨b,0,none⟩),.int .i64 63] w (OkP w b g L' (.int .i64 (v:Nat))):=zdt h (by decide) a
theorem zwP{w:World}{b g:Nat}{L L':List Nat}{v:Nat}(h:At w b g L 0)(a:uintR 63 L=some (v,L')):Calls prog 91 #[.pointer (some ⟨b,0,none⟩),.int .i64 63] w (OkP w b g L' (.int .i64 (v:Nat))):=zeR h (by decide) a
theorem zn4{B:Nat}{w:World}{v:Value}{l:List Nat}{j:Nat}(h:yb B w v (l.take j))(a:j=l.length):yb B w v l:=by
 rwa[a,take_length]at h
theorem znA{w:World}{b g:Nat}{l rest:List Nat}{j:Nat}(h:At w b g (AuditPlain.qb (l.drop j)++rest) 0)(a:j=l.length):At w b g rest 0:=by
 rw[a,drop_length]at h;exact h
theorem zqc{l rest:List Nat}{j x:Nat}(hx:l[j]?=some x)(a:x<=63):uintR 63 (AuditPlain.qb (l.drop j)++rest)=some (x,AuditPlain.qb (l.drop (j+1))++rest):=by
 have hd:l.drop j=x::l.drop (j+1):=by
  have b:=(List.getElem?_eq_some_iff.1 hx).1;rw[drop_eq_getElem_cons b];congr 1
  rw[List.getElem?_eq_getElem b]at hx;exact Option.some.inj hx
 rw[hd];show uintR 63 ((put x++AuditPlain.qb (l.drop (j+1)))++rest)=_;rw[List.append_assoc];exact uint_put a (by decide) _
theorem zsc(w:World)(n:Nat):(w.alloc (.cells #[.int .i64 (n:Nat)] 3)).cell? ⟨w.heap.size,0,none⟩=some (.int .i64 (n:Nat)):=by
 unfold World.cell?;rw[heap_alloc_new w _];rfl
theorem zo2(w:World){ops:Array Oper}{rest:List Oper}{o:Oper}{a:Act}{Q:Exit->Act->World->Prop}(s x:Operand)(b:Nat){B:Nat}{l:List Nat}{n m:Nat}
  (hg:o.guard=none) (hop:o.op=Op.call { callee:=Callee.builtin Builtin.append,args:=#[s,x],argTypes:=#[36,36] }) (hrows:yb B w (a.eval s) l) (few:l.length<=1000) (hB:B<=w.heap.size)
  (hx:a.eval x = .slice (some ⟨b,0,none⟩) 1 1) (hc0:w.cell? ⟨b,0,none⟩=some (.int .i64 (n:Nat))) (hm:l.length=m)
  (hK:∀q c w',yb B w' (.slice (some q) (m+1) c) (l++[n])->(∀i,i<B->w'.heap[i]?=w.heap[i]?)->w.heap.size<=w'.heap.size->w'.tape=w.tape->w'.os=w.os->w'.output=w.output->wpList prog ops Q rest (a.put o.dst (.slice (some q) (m+1) c)) w') :
  wpList prog ops Q (o::rest) a w:=by
 subst hm;exact zsI w s x b hg hop hrows few hB hx hc0 hK
theorem zn3{B:Nat}{w:World}{v:Value}{l:List Nat}{j x:Nat}(h:yb B w v (l.take j++[x]))(hx:l[j]?=some x):yb B w v (l.take (j+1)):=by
 have a:=(List.getElem?_eq_some_iff.1 hx).1
 have e:l.take (j+1)=l.take j++[x]:=by
  rw[take_add_one,hx];rfl
 rw[e];exact h
theorem znN{b:Nat}{a w w':World}(h:j6 b a w)(k:(∀i,i<a.heap.size->w'.heap[i]?=w.heap[i]?)/\w.heap.size<=w'.heap.size/\w'.tape=w.tape/\w'.os=w.os/\w'.output=w.output):j6 b a w':=
 ⟨fun c hc hn=>by rw[k.1 c hc,h.old c hc hn],Nat.le_trans h.size k.2.1,k.2.2.1.trans h.tape,k.2.2.2.1.trans h.os,k.2.2.2.2.trans h.output,fun arr t fz d=>by obtain⟨e,h1⟩:=h.ty arr t fz d;exact⟨e,by rw[k.1 b (Array.getElem?_eq_some_iff.1 d).1];exact h1⟩⟩
def zDz(w0:World)(b g:Nat)(l rest:List Nat)(k:Nat)(out i:Value)(w:World):Prop:=∃(j:Nat) (q:Option Addr) (c:Nat),j+k=l.length/\i = .int .i64 j/\out = .slice q j c/\yb w0.heap.size w out (l.take j)/\At w b g (AuditPlain.qb (l.drop j)++rest) 0/\j6 b w0 w
def zxE(w0:World)(b g:Nat)(l rest:List Nat)(e:Ending)(w:World):Prop:=∃v,e = .returned v/\yb w0.heap.size w v l/\At w b g rest 0/\j6 b w0 w
theorem zj5{w:World}{b g:Nat}{l rest:List Nat}(h:At w b g (numbers l++rest) 0)(hg:g<w.heap.size)(hl:l.length<=63)(h63:∀n∈l,n<=63):Calls prog 95 #[.pointer (some ⟨b,0,none⟩)] w (zxE w b g l rest):=by
 have H:=hid h;have HG:=hid hg;have HL:=hid hl;have H63:=hid h63;have hc:uintR 63 (numbers l++rest)=some (l.length,AuditPlain.qb l++rest):=by unfold numbers;rw[List.append_assoc];exact uint_put hl (by decide) _
 have HC:=hid hc;clear h hg hl h63 hc;go_enter func95,ntmps95
 go_wp2_with(go_at_call 41;(with_reducible refine(zuS H.out HC.out).mono ?_);rintro e w1 ⟨rfl,h1,h2⟩;have H1:=hid h1;have H2:=hid h2;clear h1 h2)
 .have hbB:RowKit.Hid (b<w.heap.size):=hid (block_lt_of_cell? w _ H.out.err);go_loopg [3,6] l.length (fun k out i wr=>zDz w b g l rest k out i wr)
  case atStart=>exact⟨0,none,0,by omega,rfl,rfl,⟨fun _=>rfl,fun h=>absurd rfl h⟩,H1.out,H2.out⟩
  case round=>
   obtain⟨j,q,c,hj,rfl,rfl,hI,hA,hO⟩:=hrel;have HI:=hid hI;have HA:=hid hA;have HO:=hid hO;clear hI hA hO
   cases gk with
   | zero=>
    have hjm:¬((j:Int)<(l.length:Int)):=by omega
    have hjl:RowKit.Hid (j=l.length):=hid (by omega);go_wp2
    go_ret
    exact⟨.slice q j c,rfl,zn4 HI.out hjl.out,znA HA.out hjl.out,HO.out⟩
   | succ k=>
    have hjm:(j:Int)<(l.length:Int):=by omega
    obtain⟨x,hx⟩:∃x,l[j]?=some x:=⟨_,List.getElem?_eq_getElem (by omega)⟩
    have hr:=zqc (rest:=rest) hx (H63.out x (List.mem_of_getElem? hx));have HR:=hid hr;have HX:=hid hx;clear hr hx;have few:RowKit.Hid ((l.take j).length<=1000):=hid (by rw[length_take];have:=HL.out;omega);have hjt:(l.take j).length=j:=by rw[length_take];omega
    have HJ:=hid hjt;clear hjt;have hw64:RowKit.wrap64 ((j:Int)+1)=(j:Int)+1:=by unfold RowKit.wrap64;have:=HL.out;omega
    go_wp2_with(first
     | (go_at_call 91;(with_reducible refine(zwP HA.out HR.out).mono ?_);rintro e w2 ⟨rfl,h1,h2⟩;have A1:=hid h1;have A2:=hid h2;clear h1 h2)
     | (at_builtin;refine zo2 _ _ _ w2.heap.size rfl rfl (zkF (WW HI.out hbB.out A2.out) (zE _ _)) few.out (Nat.le_trans (Nat.le_trans HO.out.size A2.out.size) (zE _ _).size) rfl (zsc w2 _) HJ.out ?_;intro q' c' w3 k1 k2 k3 k4 k5 k6;have K1:=hid k1;have K:=hid (And.intro k2 (And.intro k3 (And.intro k4 (And.intro k5 k6))));clear k1 k2 k3 k4 k5 k6))
    go_roundg k
    case measure=>omega
    case rel=>exact⟨j+1,some q',c',by omega,(by rw[hw64];rfl),rfl,zn3 K1.out HX.out,(A1.out.grown (zE _ _)).other (K.out.1 b hbB.out) (K.out.1 g HG.out),znN (HO.out.trans (A2.out.trans (j6.qt (zE _ _)))) K.out⟩
end RD
end
section
open Go Go.Proofs TR
namespace RD
theorem jt(l:List Nat):(qM l).length=l.length:=by unfold qM;rw[length_map]
theorem zdF(l m:List Nat):qM (l++m)=qM l++qM m:=by unfold qM;rw[List.map_append]
def qO(B:Nat)(w:World)(v:Value)(l:List Nat):Prop:=
 (l=[]->v = .slice none 0 0)/\(l≠[]->∃x:Nat×Nat×Nat,v = .slice (some ⟨x.1,x.2.1,none⟩) l.length (l.length+x.2.2)/\zw prog w x 5 (qM l)/\B<=x.1)
theorem zfu(w:World){ops:Array Oper}{rest:List Oper}{o:Oper}{a:Act}{Q:Exit->Act->World->Prop}(s x:Operand){b off O:Nat}{B:Nat}{l M:List Nat}
  (hg:o.guard=none) (hop:o.op=Op.call { callee:=Callee.builtin Builtin.append,args:=#[s,x],argTypes:=#[51,51] }) (hrows:qO B w (a.eval s) l) (few:l.length+M.length<=100000) (hM:M≠[]) (hB:B<=w.heap.size)
  (hx:a.eval x = .slice (some ⟨b,off,none⟩) M.length O) (hc0:∀i y,M[i]?=some y->w.cell? ⟨b,off+i,none⟩=some (.int .u8 (y:Nat)))
  (hK:∀q c w',qO B w' (.slice (some q) (l.length+M.length) c) (l++M)->Y1 (a.eval s) w w'->wpList prog ops Q rest (a.put o.dst (.slice (some q) (l.length+M.length) c)) w') :
  wpList prog ops Q (o::rest) a w:=by
 obtain⟨i,hi⟩:∃i,Tryz.prog.info? 5=some i:=Option.isSome_iff_exists.1 (by kernel_rfl);have A:(Tryz.prog.info? 5).map (·.size)=some 1:=by kernel_rfl
 have k2:(Tryz.prog.info? 5).map (fun i=>Nat.ble i.bytes 1000)=some true:=by kernel_rfl
 have k3:((Tryz.prog.info? 5).bind (·.zero)).map (fun z=>z.cells.size)=some 1:=by kernel_rfl
 rw[hi]at A k2 k3;have A:i.size=1:=Option.some.inj A;have k2:i.bytes<=1000:=Nat.ble_eq.mp (Option.some.inj k2);obtain⟨z,G,C⟩:=Option.map_eq_some_iff.1 k3;have G:i.zero=some z:=G;have t:(l.length+M.length)*i.bytes<=140737488355328:=Nat.le_trans (Nat.mul_le_mul (show l.length+M.length<=100000 by omega) k2) (by decide);have N:0<M.length:=List.length_pos_iff.2 hM;have v:l.length+M.length<=maxLen:=by unfold maxLen;omega
 have hc:∀(j:Nat) (u:Value),(qM M)[j]?=some u->w.cell? ((⟨b,off,none⟩:Addr).add j)=some u:=by
  intro j u d;unfold qM at d;rw[List.getElem?_map]at d;obtain⟨y,Y,rfl⟩:=Option.map_eq_some_iff.1 d;rw[Addr.add_lit];exact hc0 j y Y
 have n:∀u∈qM M,u.oneCell'=true:=by
  intro u T;unfold qM at T;obtain⟨y,_,rfl⟩:=List.mem_map.1 T;rfl
 have f:(qM M).length=M.length:=by unfold qM;rw[length_map]
 have grown:∀H w',w'.ownsRow w.heap.size 5 1 H (l.length+M.length) (qM l++qM M)->w.grownBy w' none->wpList prog ops Q rest (a.put o.dst H) w':=by
  intro H w' ho k;obtain⟨_,⟨_,h0⟩|⟨g,cap,cur,rfl,h1,h2,h3,_,h5,h6⟩⟩:=ho
  .omega
  .refine hK _ _ w' ⟨fun h=>absurd (List.append_eq_nil_iff.1 h).2 hM,fun _=>⟨(g,0,cap-(l.length+M.length)),?_,⟨cur,(0,0),h2,?_,fun i _ h=>by omega,Nat.dvd_zero _,fun j d=>?_⟩,Nat.le_trans hB h1⟩⟩ ⟨fun c hc _=>k.block c hc (by simp),k.size,k.tape,k.os,k.output⟩
   .rw[length_append,show l.length+M.length+(cap-(l.length+M.length))=cap by omega]
   .rw[jt,Vk,length_append,h5];show 0+(l.length+M.length)+(cap-(l.length+M.length))*1<=cap*1;omega
   .rw[zdF,<- h6]at d ⊢;rw[Nat.zero_add,getElem?_take,if_pos (by rw[length_take]at d;omega),getElem?_toList]
 by_cases he:l=[]
 .subst he;have hs:a.eval s = .slice none 0 0:=hrows.1 rfl;exact wpList_append_grows w hg s x 51 hop 5 i z 1 i.bytes under51 hi G A rfl C (by decide) none 0 0 [] hs (fun _=>⟨rfl,rfl⟩) rfl (fun b h=>by cases h) _ M.length O _ hx (by rw[f,Nat.mul_one]) hc n (by show 0<0+M.length;omega) (by show 0+M.length<=maxLen;rw[Nat.zero_add];rw[length_nil,Nat.zero_add]at v;exact v) (by rw[length_nil]at t;exact t) grown
 .obtain⟨y,hs,m,J⟩:=hrows.2 he;have r:=m;obtain⟨arr,fz,I,X,P,U,r5⟩:=r;rw[jt,Vk]at X;have hold:∀(j:Nat) (u:Value),(qM l)[j]?=some u->w.cell? ⟨y.1,y.2.1+j,none⟩=some u:=fun j u d=>TR.cell_of_row m d;refine wpList_append_arg w hg s x 51 hop 5 i z 1 i.bytes under51 hi G A rfl C (by decide) y.1 y.2.1 l.length (l.length+y.2.2) (qM l) hs (by rw[jt,Nat.mul_one]) hold _ M.length O _ hx (by rw[f,Nat.mul_one]) hc n (fun Z j d=>?_) v t (fun Z=>?_) fun _=>grown
  .have d:j<M.length:=by rw[f]at d;exact d
   have D:y.2.1+l.length*1+j<arr.size:=by omega
   refine⟨?_,?_⟩
   .unfold World.cell?;rw[I];show(arr[y.2.1+l.length*1+j]?).isSome=true;rw[Array.getElem?_eq_getElem D];rfl
   .unfold World.frozen?;rw[I];have:=P _ D;show(decide (fz.1<=y.2.1+l.length*1+j)&&decide (y.2.1+l.length*1+j<fz.2))=false;rw[Bool.and_eq_false_iff,decide_eq_false_iff_not,decide_eq_false_iff_not];omega
  .have K:y.2.1+l.length*1+(qM M).length<=arr.size:=by rw[f];omega
   obtain⟨p,g1,g2,g3,g4⟩:=ky y.1 (qM M) (y.2.1+l.length*1) w arr 5 fz I K;refine hK _ _ _ ⟨fun h=>absurd (List.append_eq_nil_iff.1 h).2 hM,fun _=>⟨(y.1,y.2.1,y.2.2-M.length),?_,⟨p,fz,g1,?_,fun i hi=>P i (by omega),U,fun j d=>?_⟩,J⟩⟩ ⟨fun c hc L=>?_,?_,kQ _ _ _ _,?_,?_⟩
   .rw[length_append,show l.length+M.length+(y.2.2-M.length)=l.length+y.2.2 by omega]
   .rw[jt,Vk,length_append,g2];show y.2.1+(l.length+M.length)+(y.2.2-M.length)*1<=arr.size;omega
   .rw[zdF];rw[jt,length_append]at d;show p[y.2.1+j]?=_;rcases Nat.lt_or_ge j l.length with h|h
    .rw[List.getElem?_append_left (by rw[jt];exact h),g4 _ (by omega)];exact r5 j (by rw[jt];exact h)
    .rw[List.getElem?_append_right (by rw[jt];exact h),jt];have:=g3 (j-l.length) (by rw[f];omega);rw[show y.2.1+l.length*1+(j-l.length)=y.2.1+j by omega]at this;exact this
   .refine heap_setCells_other w _ _ _ hc fun e=>L _ _ _ hs e.symm
   .rw[kR];exact Nat.le_refl _
   .exact os_setCells _ _ _ _
   .exact output_setCells _ _ _ _
structure Wr(B:Nat)(w:World)(b:Nat)(L:List Nat):Prop where
 ex:∃p n c,zw prog w (b,0,0) 174 [.slice p n c]/\qO B w (.slice p n c) L/\n=L.length
 low:B<=b
structure Low(B:Nat)(w w2:World):Prop where
 old:∀c,c<B->w2.heap[c]?=w.heap[c]?
 size:w.heap.size<=w2.heap.size
 tape:w2.tape=w.tape
 os:w2.os=w.os
 output:w2.output=w.output
theorem Low.trans{B:Nat}{x y z:World}(h:Low B x y)(k:Low B y z):Low B x z:=
 ⟨fun c hc=>by rw[k.old c hc,h.old c hc],Nat.le_trans h.size k.size,k.tape.trans h.tape,k.os.trans h.os,k.output.trans h.output⟩
theorem Low.qt{B:Nat}{x y:World}(h:Grown x y)(a:B<=x.heap.size):Low B x y:=⟨fun c hc=>h.old c (by omega),h.size,h.tape,h.os,h.output⟩
theorem YA{w:World}{b:Nat}{t:TypeId}{v:Value}{l:List Value}(h:zw prog w (b,0,0) t (v::l)):w.cell? ⟨b,0,none⟩=some v/\w.frozen? ⟨b,0,none⟩=false:=by
 refine⟨TR.cell_of_row h (j:=0) rfl,?_⟩;obtain⟨arr,fz,h1,h2,h3,_⟩:=h;unfold World.frozen?;rw[h1];have:=h3 0 (by simp at h2;omega);show(decide (fz.1<=0)&&decide (0<fz.2))=false;rw[Bool.and_eq_false_iff,decide_eq_false_iff_not,decide_eq_false_iff_not];omega
theorem zsU{w:World}{b:Nat}{t:TypeId}{v a:Value}(h:zw prog w (b,0,0) t [v]):zw prog (w.setCell ⟨b,0,none⟩ a) (b,0,0) t [a]:=by
 obtain⟨arr,fz,h1,h2,h3,d,e⟩:=h;have h2:0+1+0*qX prog t<=arr.size:=h2;refine⟨arr.setIfInBounds 0 a,fz,?_,?_,fun i hi=>h3 i (by rw[size_setIfInBounds]at hi;exact hi),d,fun j c=>?_⟩
 .unfold World.setCell;show(w.heap.modify b _)[b]?=_;rw[Array.getElem?_modify,if_pos rfl];show Option.map _ w.heap[b]?=_;rw[show w.heap[b]?=_ from h1];rfl
 .rw[size_setIfInBounds];exact h2
 .have c:j<1:=c;obtain rfl:j=0:=by omega
  show(arr.setIfInBounds 0 a)[0]?=_;rw[getElem?_setIfInBounds_self,if_pos (by omega)];rfl
end RD
end
section
open Go Go.Proofs TR
open Go.AuditPlain (hi put qA zt qk numbers zig)
namespace RD
theorem zm9{w w2:World}{v:Value}{L:List Nat}{B b:Nat}{t:TypeId}{vs:List Value}(k:Y1 v w w2)(hb:qO B w v L)(a:zw prog w (b,0,0) t vs)(d:t≠5):zw prog w2 (b,0,0) t vs:=by
 refine @zw.heap unk0 _ _ _ _ _ _ a (k.Z4 _ (zw.lt a) fun p n m e hp=>?_);by_cases c:L=[]
 .rw[hb.1 c]at e;cases e
 .obtain⟨x,f,hx,_⟩:=hb.2 c;rw[f]at e;cases e;exact zw.ne a hx d hp.symm
theorem UK{w w2:World}{v:Value}{L:List Nat}{B:Nat}(k:Y1 v w w2)(hb:qO B w v L)(f:B<=w.heap.size):Low B w w2:=by
 refine⟨fun c hc=>k.Z4 c (by omega) fun p n m e hp=>?_,k.size,k.tape,k.os,k.output⟩;by_cases a:L=[]
 .rw[hb.1 a]at e;cases e
 .obtain⟨x,d,_,hx⟩:=hb.2 a;rw[d]at e;cases e;have hp:x.1=c:=hp;omega
theorem zty{w:World}{B b:Nat}(v:Value)(hb:B<=b):Low B w (w.setCell ⟨b,0,none⟩ v):=by
 have:=kL b 0 v w
 exact⟨fun c hc=>by
  unfold World.setCell
  rw[Array.getElem?_modify,if_neg (by show ¬b=c;omega)],this.size,this.tape,this.os,this.output⟩
theorem zox{w:World}{B b:Nat}{t:TypeId}{v a:Value}{vs:List Value}{L:List Nat}(h:qO B w v L)(d:zw prog w (b,0,0) t vs)(c:t≠5):qO B (w.setCell ⟨b,0,none⟩ a) v L:=by
 refine⟨h.1,fun hn=>?_⟩;obtain⟨x,e,hx,f⟩:=h.2 hn;exact⟨x,e,@zw.heap unk0 _ _ _ _ _ _ hx ((kL b 0 a w).old _ (zw.lt hx) (fun e=>zw.ne d hx c e.symm)),f⟩
theorem XS{B:Nat}{w w2:World}{b:Nat}{L:List Nat}(h:Wr B w b L)(g:Grown w w2):Wr B w2 b L:=by
 obtain⟨p,n,c,d,hb,hn⟩:=h.ex;exact⟨⟨p,n,c,kU g d,⟨hb.1,fun a=>by obtain⟨x,e,hx,f⟩:=hb.2 a;exact⟨x,e,kU g hx,f⟩⟩,hn⟩,h.low⟩
def zDy(B:Nat)(w:World)(b:Nat)(L:List Nat)(e:Ending)(w2:World):Prop:=e = .returned (.tuple #[])/\Wr B w2 b L/\Low B w w2
def Fr(b:Nat)(w w2:World):Prop:=∀c,c<w.heap.size->c≠b->(∀a n m,w.cell? ⟨b,0,none⟩=some (.slice (some a) n m)->a.block≠c)->w2.heap[c]?=w.heap[c]?
def zxG(B:Nat)(w:World)(b:Nat)(L:List Nat)(e:Ending)(w2:World):Prop:=e = .returned (.tuple #[])/\Wr B w2 b L/\Low B w w2/\Fr b w w2
theorem zxh{b:Nat}{w a:World}{v d:Value}(h:w.cell? ⟨b,0,none⟩=some v)(k:Y1 v w a):Fr b w (a.setCell ⟨b,0,none⟩ d):=fun c hc hn hs=>by
 rw[(kL b 0 d a).old c (Nat.lt_of_lt_of_le hc k.size) hn];exact k.Z4 c hc fun p n m e=>hs p n m (by rw[h,e])
theorem zrA{b:Nat}{w d w2:World}{v:Value}(h:w.cell? ⟨b,0,none⟩=some v)(g:Grown w d)(k:Fr b d w2):Fr b w w2:=fun c hc hn hs=>by
 rw[k c (Nat.lt_of_lt_of_le hc g.size) hn fun a n m e=>hs a n m (by rw[h,<- e,yx h g]),g.old c hc]
theorem zpR{B:Nat}{w:World}{b:Nat}{L M:List Nat}{bq oq cq:Nat}(h:Wr B w b L)(hB:B<=w.heap.size)(hi:In w (some ⟨bq,oq,none⟩) M)(hne:M≠[])(hlen:L.length+M.length<=100000) :
  Calls prog 38 #[.pointer (some ⟨b,0,none⟩),.slice (some ⟨bq,oq,none⟩) M.length cq] w (zxG B w b (L++M)):=by
 obtain⟨p,n,c,hr,hb,rfl⟩:=h.ex;have HL:=hid h.low;have HR:=hid hr;have HB:=hid hb;have HBs:=hid hB;have HNE:=hid hne;have HLEN:=hid hlen;have HC:=hid (show ∀i y,M[i]?=some y->w.cell? ⟨bq,oq+i,none⟩=some (.int .u8 (y:Nat)) by obtain⟨b',o',e,hc⟩:=hi.2 hne;cases e;exact hc);obtain⟨h1,hf⟩:=YA hr;have H1c:=hid h1;clear h hr hb hB hi hne hlen;go_enter func38,ntmps38
 go_wp2_with(at_builtin;refine zfu _ _ _ rfl rfl HB.out HLEN.out HNE.out HBs.out rfl HC.out ?_;intro q' c' w3 k1 k2;have K1:=hid k1;have K2:=hid k2;have hr3:=zm9 k2 HB.out HR.out (by decide);have HR3:=hid hr3;obtain⟨h3,hf3⟩:=YA hr3;clear k1 k2 hr3)
 refine⟨rfl,_,results_none rfl _ _ _,rfl,⟨⟨_,_,_,zsU HR3.out,zox K1.out HR3.out (by decide),by rw[length_append]⟩,HL.out⟩,(UK K2.out HB.out HBs.out).trans (zty _ HL.out),zxh H1c.out K2.out⟩
theorem zf8{w w2:World}{u:Value}{L:List Nat}{e:Nat}(h:XP prog .u8 5 w w2 (str L) u e)(d:∀y∈L,y<256):∃b o c,u = .slice (some ⟨b,o,none⟩) L.length c/\In w2 (some ⟨b,o,none⟩) L/\L.length<=c/\w.heap.size<=b:=by
 obtain⟨x,arr,fz,_,hn⟩:=h;have a:(str L).size=L.length:=@qm unk0 L;refine⟨x.1,x.2.1,x.2.2,by rw[hn.is,a],⟨d,fun _=>⟨x.1,x.2.1,rfl,fun i y hi=>?_⟩⟩,by rw[<- a];exact hn.cap,hn.new⟩
 have hc:(str L).data[i]?=some (UInt8.ofNat y):=by
  unfold str;rw[getElem?_toArray,List.getElem?_map,hi];rfl
 have:=hn.cell i _ hc;unfold World.cell?;rw[hn.row];rw[toNat_ofNat',mod_eq_of_lt (d y (List.mem_of_getElem? hi))]at this;exact this
theorem zzu:∀(u:Nat),∀y∈hi u,y<256:=by
 intro u
 induction u using Nat.strongRecOn with
 | ind u c=>
  by_cases h:u=0
  .subst h;rw[jG];intro y a;cases a
  .rw[Xm h];intro y a;rcases List.mem_append.1 a with a|a
   .exact c _ (div_lt_self (Nat.pos_of_ne_zero h) (by decide)) y a
   .rw[List.mem_singleton]at a;omega
theorem Qg{v:Nat}:∀y∈put v,y<256:=by
 unfold put;intro y a;rcases List.mem_append.1 a with a|a
 .exact zzu _ y a
 .rw[List.mem_singleton]at a;omega
theorem zcp(v:Nat):put v≠[]:=by unfold put;simp
theorem kK{v : Nat}(h : v < 34359738368) : (put v).length <= 5 := by
  have hlen : ∀(k u : Nat), u < 128 ^ k -> (hi u).length <= k := by
    intro k
    induction k with
    | zero => intro u a; have : u = 0 := by simpa using a
              subst this; rw[jG]; exact Nat.le_refl _
    | succ k d =>
      intro u a;by_cases c : u = 0
      · subst c; rw[jG]; exact zero_le _
      · rw[Xm c, length_append]
        have := d (u / 128) (by rw[Nat.pow_succ] at a; omega);simp;omega
  unfold put;rw[length_append];have := hlen 4 (v / 128) (by omega);simp;omega
theorem zsH{B:Nat}{w:World}{b:Nat}{L:List Nat}(h:Wr B w b L):∃v,w.cell? ⟨b,0,none⟩=some v:=by
 obtain⟨p,n,c,a,_,_⟩:=h.ex;exact⟨_,(YA a).1⟩
theorem zzA{B:Nat}{w w2:World}{b:Nat}{L M:List Nat}{p:Addr}(_h:Wr B w b L)(k:Fr b w w2)(hi:In w (some p) M)(hn:M≠[])(h1:p.block≠b)(h2:∀a n m,w.cell? ⟨b,0,none⟩=some (.slice (some a) n m)->a.block≠p.block):In w2 (some p) M:=by
 refine⟨hi.1,fun _=>?_⟩;obtain⟨b',o,e,hc⟩:=hi.2 hn;cases e;refine⟨b',o,rfl,fun i x hx=>?_⟩;have:=hc i x hx;rw[cell?_of_block (k b' (block_lt_of_cell? w _ this) h1 h2)];exact this
theorem zo0{B:Nat}{w i:World}{b f:Nat}{L:List Nat}(h:Wr B w b L)(g:Grown w i)(hq:w.heap.size<=f):f≠b/\∀a n m,i.cell? ⟨b,0,none⟩=some (.slice (some a) n m)->a.block≠f:=by
 obtain⟨p,n,c,k,hb,_⟩:=h.ex;have h1:=(YA k).1;have d:=block_lt_of_cell? w _ h1;have d:b<w.heap.size:=d;refine⟨by omega,fun a n m e he=>?_⟩;rw[yx h1 g]at e;cases e;by_cases j:L=[]
 .have:=hb.1 j;cases this
 .obtain⟨x,e,hx,_⟩:=hb.2 j;cases e;have:=zw.lt hx;have he:x.1=f:=he;omega
section
variable{B:Nat}{w:World}{b:Nat}{L M:List Nat}
theorem uint_w(h:Wr B w b L)(hB:B<=w.heap.size){v:Nat}(hv:v<34359738368)(hlen:L.length<=90000):Calls prog 36 #[.pointer (some ⟨b,0,none⟩),.int .u64 (v:Nat)] w (zxG B w b (L++put v)):=by
 have H:=hid h;have HB:=hid hB;have HV:=hid hv;have HE:=hid hlen;clear h hB hv hlen;go_enter func36,ntmps36
 go_wp2_with(first
  | (go_at_call 86;(with_reducible refine(GR.za9 HV.out w).mono ?_);rintro e w1 ⟨g1,u,bb,rfl,hn⟩;obtain⟨bq,oq,cq,rfl,hi,_,_⟩:=zf8 hn Qg;have G1:=hid g1;have HI:=hid hi;clear g1 hn hi)
  | (go_at_call 38;(with_reducible refine(zpR (XS H.out G1.out) (Nat.le_trans HB.out G1.out.size) HI.out (zcp _) (by have:=kK HV.out;have:=HE.out;omega)).mono ?_);rintro e w2 ⟨rfl,k1,k2,k3⟩;have K1:=hid k1;have K2:=hid k2;have K3:=hid k3;clear k1 k2 k3))
 refine⟨rfl,_,results_none rfl _ _ _,rfl,K1.out,(Low.qt G1.out HB.out).trans K2.out,zrA (zsH H.out).choose_spec G1.out K3.out⟩
theorem zu6{bq oq cq:Nat}(h:Wr B w b L)(hB:B<=w.heap.size)(hi:In w (some ⟨bq,oq,none⟩) M)(hq:bq≠b/\∀a n m,w.cell? ⟨b,0,none⟩=some (.slice (some a) n m)->a.block≠bq)(hne:M≠[])(hlen:L.length+M.length<=90000) :
  Calls prog 37 #[.pointer (some ⟨b,0,none⟩),.slice (some ⟨bq,oq,none⟩) M.length cq] w (zDy B w b (L++zt M)):=by
 have H:=hid h;have HB:=hid hB;have HQ:=hid hq;have HI:=hid hi;have HN:=hid hne;have HE:=hid hlen;have hw:IntKind.u64.wrap (M.length:Int)=(M.length:Int):=u64_in _ (by omega);clear h hB hi hq hne hlen;go_enter func37,ntmps37
 go_wp2_with(first
  | (go_at_call 36;(with_reducible refine(uint_w H.out HB.out (by have:=HE.out;omega) (by have:=HE.out;omega)).mono ?_);rintro e w1 ⟨rfl,k1,k2,k3⟩;have K1:=hid k1;have K2:=hid k2;have K3:=hid k3;clear k1 k2 k3)
  | (go_at_call 38;(with_reducible refine(zpR K1.out (Nat.le_trans HB.out K2.out.size) (zzA H.out K3.out HI.out HN.out HQ.out.1 HQ.out.2) HN.out (by rw[length_append];have:=kK (v:=M.length) (by have:=HE.out;omega);have:=HE.out;omega)).mono ?_);rintro e w2 ⟨rfl,k1,k2,_⟩;have L1:=hid k1;have L2:=hid k2;clear k1 k2))
 refine⟨rfl,_,results_none rfl _ _ _,rfl,?_,K2.out.trans L2.out⟩;unfold zt;rw[<- List.append_assoc];exact L1.out
def zDA(w:World)(L:List Nat)(e:Ending)(w2:World):Prop:=∃p c,e = .returned (.slice p L.length c)/\Grown w w2/\L.length<=c/\In w2 p L/\∀a,p=some a->w.heap.size<=a.block
theorem XD{p:Option Addr}{n c:Nat}(h:qO B w (.slice p n c) L)(a:∀y∈L,y<256):In w p L:=by
 refine⟨a,fun hn=>?_⟩;obtain⟨x,e,hx,_⟩:=h.2 hn;cases e;refine⟨x.1,x.2.1,rfl,fun i y hi=>TR.cell_of_row hx ?_⟩;unfold qM;rw[List.getElem?_map,hi];rfl
theorem zyG(h:Wr B w b L)(hL:∀y∈L,y<256)(hlen:L.length<=100000):Calls prog 39 #[.pointer (some ⟨b,0,none⟩)] w (zDA w L):=by
 obtain⟨p,n,c,hr,hb,rfl⟩:=h.ex;obtain⟨h1,_⟩:=YA hr;have HI:=hid (XD hb hL);have HE:=hid hlen;clear h hr hb hL hlen;go_enter func39,ntmps39
 go_wp2_with(go_at_call 18;(with_reducible refine(zdx HI.out HE.out).mono ?_);rintro e w1 ⟨p',c',rfl,k1,k2,k3,k4⟩;have K:=hid (And.intro k1 (And.intro k2 (And.intro k3 k4)));clear k1 k2 k3 k4)
 go_ret
 exact⟨p',c',rfl,K.out⟩
theorem zto(w:World):zw prog (w.alloc (.cells #[.slice none 0 0] 174)) (w.heap.size,0,0) 174 [.slice none 0 0]:=by
 refine⟨_,(0,0),heap_alloc_new w _,by rw[Nat.zero_mul];exact Nat.le_refl 1,fun i _ h=>by omega,Nat.dvd_zero _,fun j a=>?_⟩;have a:j<1:=a;obtain rfl:j=0:=by omega
 rfl
def zDC(w:World)(e:Ending)(w2:World):Prop:=∃b,e = .returned (.pointer (some ⟨b,0,none⟩))/\Grown w w2/\Wr w.heap.size w2 b []
theorem zyS:Calls prog 35 #[] w (zDC w):=by
 go_enter func35,ntmps35
 go_wp2
 go_ret
 exact⟨w.heap.size,rfl,zE w _,⟨⟨none,0,0,zto w,⟨fun _=>rfl,fun h=>absurd rfl h⟩,rfl⟩,Nat.le_refl _⟩⟩
end
end RD
end
end Go.AEv
