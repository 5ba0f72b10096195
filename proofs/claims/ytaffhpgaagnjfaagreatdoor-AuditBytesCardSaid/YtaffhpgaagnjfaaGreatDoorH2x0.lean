/- The bytes of a trail: the program's call. Conditions: the trail lies in memory; no more than eight records. -/
import Derived.Test.YtaffhpgaagnjfaaGreatDoorL2a
open List Go.Proofs.Tryz
namespace Go.AEv
noncomputable section
open Go Go.Proofs TR
open KT (zF)
open Go.AuditPlain (hi put qA zt qk numbers zig)
namespace RD
theorem zan:∀(es:List Ent) (j i:Nat) {e:Ent},es[j]?=some e->i<14->(cellsOf es)[14*j+i]?=(ZB e)[i]?
 | [],j,i,e,h,_=>by cases h
 | e0::es,0,i,e,h,hi=>by
  cases h;show(ZB e0++cellsOf es)[14*0+i]?=_
  rw[List.getElem?_append_left (by rw[Kl];omega),Nat.mul_zero,Nat.zero_add]
 | e0::es,j+1,i,e,h,hi=>by
  show(ZB e0++cellsOf es)[14*(j+1)+i]?=_;rw[List.getElem?_append_right (by rw[Kl];omega),Kl,show 14*(j+1)+i-14=14*j+i by omega];exact zan es j i h hi
def recAt(w:World)(b o:Nat)(R:zy)(p1 p2:Option Addr)(n1 n2 c1 c2:Nat):Prop:=
 w.cell? ⟨b,o,none⟩=some (.int .i64 R.number)/\w.cell? ⟨b,o+1,none⟩=some (.int .i64 R.version)/\w.cell? ⟨b,o+2,none⟩=some (.string R.tenant)/\w.cell? ⟨b,o+3,none⟩=some (.int .i64 R.session)/\w.cell? ⟨b,o+4,none⟩=some (.string R.action)/\w.cell? ⟨b,o+5,none⟩=some (.string R.path) /\
 w.cell? ⟨b,o+6,none⟩=some (.int .i64 R.day)/\w.cell? ⟨b,o+7,none⟩=some (.bool R.granted)/\w.cell? ⟨b,o+8,none⟩=some (.int .i64 R.user)/\w.cell? ⟨b,o+9,none⟩=some (.slice p1 n1 c1)/\w.cell? ⟨b,o+10,none⟩=some (.slice p2 n2 c2)/\w.cell? ⟨b,o+11,none⟩=some (.string R.does) /\
 w.cell? ⟨b,o+12,none⟩=some (.string R.at_)/\w.cell? ⟨b,o+13,none⟩=some (.bool R.deep)
theorem ZC{w:World}{x:Nat×Nat×Nat}{es:List Ent}(h:zw prog w x 42 (cellsOf es)){j:Nat}{R:zy}{b a:Option Addr}{d c c1 e:Nat}(f:es[j]?=some (R,.slice b d c1,.slice a c e)):recAt w x.1 (x.2.1+j*14) R b a d c c1 e:=by
 have key:∀i v,i<14->(ZB (R,Value.slice b d c1,Value.slice a c e))[i]?=some v->w.cell? ⟨x.1,x.2.1+j*14+i,none⟩=some v:=fun i v hi hv=>by
  have:=TR.cell_of_row h (j:=14*j+i) (v:=v) (by rw[zan es j i f hi];exact hv);rwa[show x.2.1+(14*j+i)=x.2.1+j*14+i by omega]at this
 exact⟨key 0 _ (by decide) rfl,key 1 _ (by decide) rfl,key 2 _ (by decide) rfl,key 3 _ (by decide) rfl,key 4 _ (by decide) rfl,key 5 _ (by decide) rfl,key 6 _ (by decide) rfl,key 7 _ (by decide) rfl,key 8 _ (by decide) rfl,key 9 _ (by decide) rfl,key 10 _ (by decide) rfl,key 11 _ (by decide) rfl,key 12 _ (by decide) rfl,key 13 _ (by decide) rfl⟩
theorem zrI{w:World}{es:List Ent}(hl:jo w es){j:Nat}(f:j<es.length):∃(R:zy) (b a:Option Addr) (e d c1 c:Nat),es[j]?=some (R,.slice b e c1,.slice a d c)/\AtS w (.slice b e c1) R.up/\AtS w (.slice a d c) R.down:=by
 obtain⟨h1,h2⟩:=hl es[j] (List.getElem_mem f);obtain⟨b,c1,h⟩:=h1.slice;obtain⟨a,c,g⟩:=h2.slice;refine⟨es[j].1,b,a,_,_,c1,c,?_,by rw[<- h];exact h1,by rw[<- g];exact h2⟩;rw[List.getElem?_eq_getElem f,<- h,<- g]
def qY(Rs:List zy):List Nat:=Rs.flatMap fun R=>zt R.qi.bytes
def jZ(Rs:List zy):List Nat:=(List.range 32).map (qN Rs)
def kc(Rs:List zy):List Nat:=put Rs.length++(qY Rs++jZ Rs)
def zDE(w:World)(R:zy)(e:Ending)(w2:World):Prop:=∃b o c,e = .returned (.slice (some ⟨b,o,none⟩) R.qi.bytes.length c)/\In w2 (some ⟨b,o,none⟩) R.qi.bytes/\Grown w w2/\w.heap.size<=b/\b<w2.heap.size
theorem kq{a b:List Nat}(d:∀y∈a,y<256)(hb:∀y∈b,y<256):∀y∈a++b,y<256:=fun y c=>by
 rcases List.mem_append.1 c with h|h
 .exact d y h
 .exact hb y h
theorem zmh(l:List Nat):∀y∈numbers l,y<256:=by
 unfold numbers AuditPlain.qb;refine kq Qg fun y a=>?_;obtain⟨n,_,a⟩:=List.mem_flatMap.1 a;exact Qg y a
theorem zj8(R:zy):∀y∈R.qi.bytes,y<256:=by
 have s:∀t:ByteArray,∀y∈zt (zA t),y<256:=fun t=>kq Qg (@WG unk0 t);have f:∀b:Bool,∀y∈qk b,y<256:=fun b y a=>by cases b<;>simp[qk]at a<;>omega
 have i:∀n:Int,∀y∈qA n,y<256:=fun n=>Qg;exact kq Qg (kq Qg (kq (s _) (kq (i _) (kq (s _) (kq (s _) (kq Qg (kq (f _) (kq Qg (kq (zmh _) (kq (zmh _) (kq (s _) (kq (s _) (f _)))))))))))))
theorem zfS(R:zy):R.qi.bytes≠[]:=by
 unfold AuditPlain.Rec.bytes;intro h;exact zcp _ (List.append_eq_nil_iff.1 h).1
theorem zzG{w:World}{R:zy}{h f:Option Addr}{j i c1 k:Nat}(d:EN.Good R)(h1:AtS w (.slice h j c1) R.up)(h2:AtS w (.slice f i k) R.down):Calls prog 32 #[zbn R h f j i c1 k] w (zDE w R):=by
 obtain⟨x1,l⟩:=CK.jI d.ok.up h1;obtain⟨x2,k2⟩:=CK.jI d.ok.down h2;refine(EN.Un (R:=R) (v1:=.slice h j c1) (v2:=.slice f i k) d.ok d l k2).mono fun e w2 hp=>?_;obtain⟨g,u,m,rfl,hn⟩:=hp;obtain⟨b,o,c,rfl,hi,_,a⟩:=zf8 hn (zj8 R);exact⟨b,o,c,rfl,hi,g,a,zrm hi (zfS R)⟩
structure TW(Bx:Nat->Prop)(w0 w:World)(a:Addr)(es:List Ent)(b:Nat)(L:List Nat):Prop where
 g:Grown w0 w
 wr:Wr w0.heap.size w b L
def zDH(w0:World)(b:Nat)(n:Nat)(Rs:List zy)(k:Nat)(i:Value)(w:World):Prop:=∃j:Nat,j+k=n/\i = .int .i64 j/\Grown w0 w/\Wr w0.heap.size w b (put n++qY (Rs.take j))
theorem Ky{Rs:List zy}(h:∀R∈Rs,RH.Acc R):(qY Rs).length<=89*Rs.length:=by
 unfold qY
 induction Rs with
 | nil=>exact Nat.le_refl _
 | cons R Rs a=>
  have hR:=h R mem_cons_self;have:=Qs hR.ok hR.good hR.day;have a:=a fun x hx=>h x (mem_cons_of_mem _ hx);rw[flatMap_cons,length_append,length_cons];have:(zt R.qi.bytes).length<=89:=by unfold AuditPlain.zt;rw[length_append,TR.zhN (by omega)];omega
  omega
theorem zeD{Rs:List zy}{j:Nat}{R:zy}(h:Rs[j]?=some R):qY (Rs.take (j+1))=qY (Rs.take j)++zt R.qi.bytes:=by
 have a:=(List.getElem?_eq_some_iff.1 h).1;rw[take_add_one,h];unfold qY;rw[List.flatMap_append];simp
theorem zwC{B:Nat}{w:World}{b:Nat}{L M:List Nat}{d c g:Nat}(h:Wr B w b L)(f:B<=w.heap.size)(hi:In w (some ⟨d,c,none⟩) M)(a:M.length=32)(hlen:L.length<=90000) :
  Calls prog 38 #[.pointer (some ⟨b,0,none⟩),.slice (some ⟨d,c,none⟩) 32 g] w (zxG B w b (L++M)):=by
 rw[<- a];exact zpR h f hi (fun e=>by rw[e]at a;cases a) (by omega)
theorem ZO(Rs:List zy):(jZ Rs).length=32:=by unfold jZ;rw[length_map,length_range]
theorem zoZ{B:Nat}{w w2:World}{b:Nat}{L:List Nat}(h:Wr B w b L)(k:qy w w2):Wr B w2 b L:=by
 have key:∀ {x:Nat×Nat×Nat}{t:TypeId}{vs:List Value},t=174\/t=5->zw prog w x t vs->zw prog w2 x t vs:=by
  intro x t vs d h;refine @zw.heap unk0 _ _ _ _ _ _ h ?_;obtain⟨arr,fz,h1,_⟩:=h;rcases d with rfl|rfl
  .exact k.old _ _ _ _ h1 (by decide) (by decide) (by decide) (by decide)
  .exact k.old _ _ _ _ h1 (by decide) (by decide) (by decide) (by decide)
 obtain⟨p,n,c,f,hb,hn⟩:=h.ex;exact⟨⟨p,n,c,key (.inl rfl) f,⟨hb.1,fun a=>by obtain⟨x,e,hx,g⟩:=hb.2 a;exact⟨x,e,key (.inr rfl) hx,g⟩⟩,hn⟩,h.low⟩
theorem zsl(n:Nat)(Rs b:List zy):∀y∈(put n++qY Rs)++jZ b,y<256:=by
 refine kq (kq Qg fun y a=>?_) fun y a=>?_
 .unfold qY at a;obtain⟨R,_,a⟩:=List.mem_flatMap.1 a;exact kq Qg (zj8 R) y a
 .unfold jZ at a;obtain⟨i,_,rfl⟩:=List.mem_map.1 a;exact AP.QX b i
theorem WO{a w w2:World}(h:Grown a w)(l:Low a.heap.size w w2):Grown a w2:=
 ⟨fun c hc=>by rw[l.old c hc,h.old c hc],Nat.le_trans h.size l.size,l.tape.trans h.tape,l.os.trans h.os,l.output.trans h.output⟩
def zDB(w:World)(L:List Nat)(N:Nat)(e:Ending)(w2:World):Prop:=∃p c,e = .returned (.slice p N c)/\Grown w w2/\L.length<=c/\In w2 p L/\∀a,p=some a->w.heap.size<=a.block
theorem zyH{B:Nat}{w:World}{b:Nat}{L:List Nat}{N:Nat}(h:Wr B w b L)(a:∀y∈L,y<256)(hlen:L.length<=100000)(hN:L.length=N):Calls prog 39 #[.pointer (some ⟨b,0,none⟩)] w (zDB w L N):=by
 subst hN;exact zyG h a hlen
end RD
end
end Go.AEv
