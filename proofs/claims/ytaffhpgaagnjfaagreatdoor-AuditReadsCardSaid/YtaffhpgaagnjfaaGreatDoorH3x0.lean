/- Trails: H3x0. Conditions: each theorem's. -/
import Derived.Test.YtaffhpgaagnjfaaGreatDoorL3a
set_option linter.all false
open List
open Go.Proofs
namespace Go.AEv
variable{w:Ea}
open Go
open KT(zB)
open Go.AuditPlain(hi qs zm zT numbers zig)
noncomputable section
open TR
open Go.AuditPlain(put)
namespace RD
def mR:∀(es:List Ent) (j i:Nat) {e:Ent},es[j]?=some e->i<14->(cellsOf es)[14*j+i]?=(yX e)[i]?
 | [],j,i,e,h,_=>by cases h
 | e0::es,0,i,e,h,hi=>by
  cases h;show(yX e0++cellsOf es)[14*0+i]?=_
  rw[Ao (by rw[Jw];omega),Nat.mul_zero,Lz]
 | e0::es,j+1,i,e,h,hi=>by
  show(yX e0++cellsOf es)[14*(j+1)+i]?=_;rw[Aj (by rw[Jw];omega),Jw,show 14*(j+1)+i-14=14*j+i by omega];exact mR es j i h hi
def recAt(w:Ea)(b o:Nat)(R:zy)(p1 p2:Ed)(n1 n2 c1 c2:Nat):Prop:=
 w.cell? ⟨b,o,none⟩=some (.int .i64 R.number)/\w.cell? ⟨b,o+1,none⟩=some (.int .i64 R.version)/\w.cell? ⟨b,o+2,none⟩=some (.string R.tenant)/\w.cell? ⟨b,o+3,none⟩=some (.int .i64 R.session)/\w.cell? ⟨b,o+4,none⟩=some (.string R.action)/\w.cell? ⟨b,o+5,none⟩=some (.string R.path) /\
 w.cell? ⟨b,o+6,none⟩=some (.int .i64 R.day)/\w.cell? ⟨b,o+7,none⟩=some (.bool R.granted)/\w.cell? ⟨b,o+8,none⟩=some (.int .i64 R.user)/\w.cell? ⟨b,o+9,none⟩=some (.slice p1 n1 c1)/\w.cell? ⟨b,o+10,none⟩=some (.slice p2 n2 c2)/\w.cell? ⟨b,o+11,none⟩=some (.string R.does) /\
 w.cell? ⟨b,o+12,none⟩=some (.string R.at_)/\w.cell? ⟨b,o+13,none⟩=some (.bool R.deep)
def Qu{x:Ej}{es:List Ent}(h:zx Tryz.prog w x 42 (cellsOf es)){j:Nat}{R:zy}{p1 p2:Ed}{n1 n2 c1 c2:Nat}(a:es[j]?=some (R,.slice p1 n1 c1,.slice p2 n2 c2)):recAt w x.1 (x.2.1+j*14) R p1 p2 n1 n2 c1 c2:=by
 have key:∀i v,i<14->(yX (R,Value.slice p1 n1 c1,Value.slice p2 n2 c2))[i]?=some v->w.cell? ⟨x.1,x.2.1+j*14+i,none⟩=some v:=λi v hi hv=>by
  have:=TR.cell_of_row h (j:=14*j+i) (v:=v) (by rw[mR es j i a hi];exact hv);rwa[show x.2.1+(14*j+i)=x.2.1+j*14+i by omega]at this
 exact⟨key 0 _ C rfl,key 1 _ C rfl,key 2 _ C rfl,key 3 _ C rfl,key 4 _ C rfl,key 5 _ C rfl,key 6 _ C rfl,key 7 _ C rfl,key 8 _ C rfl,key 9 _ C rfl,key 10 _ C rfl,key 11 _ C rfl,key 12 _ C rfl,key 13 _ C rfl⟩
def PF{es:List Ent}(hl:Zw w es){j:Nat}(a:j<es.length):∃(R:zy) (p1 p2:Ed) (n1 n2 c1 c2:Nat),es[j]?=some (R,.slice p1 n1 c1,.slice p2 n2 c2)/\AtS w (.slice p1 n1 c1) R.up/\AtS w (.slice p2 n2 c2) R.down:=by
 obtain⟨h1,h2⟩:=hl es[j] (AL a);obtain⟨p1,c1,c⟩:=h1.slice;obtain⟨p2,c2,b⟩:=h2.slice;refine⟨es[j].1,p1,p2,_,_,c1,c2,?_,by rw[<- c];exact h1,by rw[<- b];exact h2⟩;rw[Ly a,<- c,<- b]
def qO(Rs:List zy):List Nat:=Rs.flatMap λR=>zm R.qC.bytes
def Zf(Rs:List zy):List Nat:=(List.range 32).map (ja Rs)
def YB(Rs:List zy):List Nat:=put Rs.length++(qO Rs++Zf Rs)
def zeS(w:Ea)(R:zy)(e:Ew)(w2:Ea):Prop:=∃b o c,e = .returned (.slice (some ⟨b,o,none⟩) R.qC.bytes.length c)/\In w2 (some ⟨b,o,none⟩) R.qC.bytes/\Grown w w2/\w.heap.size<=b/\b<w2.heap.size
def jG{a b:Eb}(ha:∀y∈a,y<256)(hb:∀y∈b,y<256):∀y∈a++b,y<256:=λy c=>by
 rcases LJ.1 c with h|h
 .exact ha y h
 .exact hb y h
def Cv(l:Eb):∀y∈numbers l,y<256:=by
 unfold numbers AuditPlain.qf;refine jG yK λy a=>?_;obtain⟨n,_,a⟩:=AE.1 a;exact yK y a
def nM(R:zy):∀y∈R.qC.bytes,y<256:=by
 have s:∀t:ByteArray,∀y∈zm (zG t),y<256:=λt=>jG yK (@ZF unk0 t);have f:∀b:Bool,∀y∈zT b,y<256:=λb y a=>by cases b<;>simp[zT]at a<;>omega
 have i:∀n:Int,∀y∈qs n,y<256:=λn=>yK;exact jG yK (jG yK (jG (s _) (jG (i _) (jG (s _) (jG (s _) (jG yK (jG (f _) (jG yK (jG (Cv _) (jG (Cv _) (jG (s _) (jG (s _) (f _)))))))))))))
def X9(R:zy):R.qC.bytes≠[]:=by
 unfold AuditPlain.Rec.bytes;intro h;exact eP _ (AW.1 h).1
def ziz(w0:Ea)(b:Nat)(n:Nat)(Rs:List zy)(k:Nat)(i:Ei)(w:Ea):Prop:=∃j:Nat,j+k=n/\i = .int .i64 j/\Grown w0 w/\Wr w0.heap.size w b (put n++qO (Rs.take j))
def Mf{a:List zy}(h:∀R∈a,RH.Acc R):(qO a).length<=89*a.length:=by
 unfold qO
 induction a with
 | nil=>exact Lh _
 | cons R a b=>
  have hR:=h R LG;have:=bu hR.ok hR.good hR.day;have b:=b λx hx=>h x (LP _ hx);rw[flatMap_cons,Lm,Am];have:(zm R.qC.bytes).length<=89:=by unfold AuditPlain.zm;rw[Lm,TR.FG I];omega
  omega
def aE{a:List zy}{j:Nat}{R:zy}(h:a[j]?=some R):qO (a.take (j+1))=qO (a.take j)++zm R.qC.bytes:=by
 have b:=(LL.1 h).1;rw[take_add_one,h];unfold qO;rw[List.flatMap_append];simp
def Mk{B:Nat}{b:Nat}{L M:Eb}{n m k:Nat}(h:Wr B w b L)(c:B<=w.heap.size)(hi:In w (some ⟨n,m,none⟩) M)(a:M.length=32)(hlen:L.length<=90000) :
  Calls Tryz.prog 38 #[.pointer (some ⟨b,0,none⟩),.slice (some ⟨n,m,none⟩) 32 k] w (KF B w b (L++M)):=by
 rw[<- a];exact sr h c hi (λe=>by rw[e]at a;cases a) I
def fT(a:List zy):(Zf a).length=32:=by unfold Zf;rw[Ls,As]
def zeJ(n:Nat)(c b:List zy):∀y∈(put n++qO c)++Zf b,y<256:=by
 refine jG (jG yK λy a=>?_) λy a=>?_
 .unfold qO at a;obtain⟨R,_,a⟩:=AE.1 a;exact jG yK (nM R) y a
 .unfold Zf at a;obtain⟨i,_,rfl⟩:=Lv.1 a;exact AP.Yw b i
def Qx{u w2:Ea}(h:Grown u w)(l:Low u.heap.size w w2):Grown u w2:=
 ⟨λc hc=>by rw[l.old c hc,h.old c hc],Lj h.size l.size,l.tape.trans h.tape,l.os.trans h.os,l.output.trans h.output⟩
end RD
end
end Go.AEv
