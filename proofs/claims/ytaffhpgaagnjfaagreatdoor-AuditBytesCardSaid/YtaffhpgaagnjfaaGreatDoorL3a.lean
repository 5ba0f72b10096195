/- A record is read: the state between the calls. Conditions: the reader lies in memory. -/
import Derived.Test.YtaffhpgaagnjfaaGreatDoorH2x0
open List Array Go.Proofs.Tryz
namespace Go.AEv
section
open Go Go.Proofs TR
open Go.AuditPlain (hi put qA zt qk numbers zig)
namespace RD
structure Dec(w0 w:World)(b g x r:Nat)(L:List Nat)(vs:List Value)(Z:List (Value×List Nat))(er:Int):Prop where
 at_:At w b g L er
 row:zw prog w (x,0,0) 42 vs
 res:∃zs,zs.length=14/\zw prog w (r,0,0) 42 zs
 gr:Grown w0 w
 xb:x≠b
 rb:r≠b
 xg:x≠g
 rx:r≠x
 x0:w0.heap.size<=x
 r0:w0.heap.size<=r
 b0:w0.heap.size<=b
 li:∀q∈Z,∃B,b<B/\x<B/\r<B/\yb B w q.1 q.2
theorem zcA{w w2:World}{b x:Nat}{t:TypeId}{vs:List Value}(k:j6 b w w2)(h:zw prog w (x,0,0) t vs)(hn:x≠b):zw prog w2 (x,0,0) t vs:=
 @zw.heap unk0 _ _ _ _ _ _ h (k.old _ (zw.lt h) hn)
theorem Dec.only{w0 w w2:World}{b g x r:Nat}{L L':List Nat}{vs:List Value}{Z:List (Value×List Nat)}{j a:Int}(h:Dec w0 w b g x r L vs Z j)(k:j6 b w w2)(f:At w2 b g L' a):Dec w0 w2 b g x r L' vs Z a:=by
 obtain⟨zs,d,e⟩:=h.res;exact⟨f,zcA k h.row h.xb,⟨zs,d,zcA k e h.rb⟩,⟨fun c hc=>by rw[k.old c (Nat.lt_of_lt_of_le hc h.gr.size) (by have:=h.b0;omega),h.gr.old c hc],Nat.le_trans h.gr.size k.size,k.tape.trans h.gr.tape,k.os.trans h.gr.os,k.output.trans h.gr.output⟩,h.xb,h.rb,h.xg,h.rx,h.x0,h.r0,h.b0,fun q hq=>by obtain⟨B,h1,h2,h3,i⟩:=h.li q hq;exact⟨B,h1,h2,h3,WW i h1 k⟩⟩
theorem znx{w:World}{b k:Nat}{t:TypeId}{v:Value}{vs:List Value}(h:zw prog w (b,0,0) t vs)(c:k<vs.length):zw prog (w.setCell ⟨b,k,none⟩ v) (b,0,0) t (vs.set k v):=by
 obtain⟨arr,fz,h1,h2,h3,f,d⟩:=h;have h2:0+vs.length+0*qX prog t<=arr.size:=h2;refine⟨arr.setIfInBounds k v,fz,?_,?_,fun i hi=>h3 i (by rw[size_setIfInBounds]at hi;exact hi),f,fun j a=>?_⟩
 .unfold World.setCell;show(w.heap.modify b _)[b]?=_;rw[Array.getElem?_modify,if_pos rfl];show Option.map _ w.heap[b]?=_;rw[show w.heap[b]?=_ from h1];rfl
 .rw[size_setIfInBounds,length_set];exact h2
 .rw[length_set]at a;have:=d j a;rw[Nat.zero_add]at this;show(arr.setIfInBounds k v)[0+j]?=_;rw[Nat.zero_add,getElem?_setIfInBounds,List.getElem?_set];by_cases e:k=j
  .subst e;rw[if_pos rfl,if_pos rfl,if_pos (by omega),if_pos c]
  .rw[if_neg e,if_neg e];exact this
theorem Dec.set{w0 w:World}{b g x r:Nat}{L:List Nat}{vs:List Value}{Z:List (Value×List Nat)}{a:Int}(h:Dec w0 w b g x r L vs Z a)(k:Nat)(v:Value)(i:k<vs.length):Dec w0 (w.setCell ⟨x,k,none⟩ v) b g x r L (vs.set k v) Z a:=by
 have o:=kL x k v w;obtain⟨zs,d,f⟩:=h.res;have hb:=World.block_lt_of_cell? w _ h.at_.err;refine⟨?_,znx h.row i,⟨zs,d,zcA o f h.rx⟩,⟨fun c hc=>by rw[o.old c (Nat.lt_of_lt_of_le hc h.gr.size) (by have:=h.x0;omega),h.gr.old c hc],Nat.le_trans h.gr.size o.size,o.tape.trans h.gr.tape,o.os.trans h.gr.os,o.output.trans h.gr.output⟩,h.xb,h.rb,h.xg,h.rx,h.x0,h.r0,h.b0,fun q hq=>by obtain⟨B,h1,h2,h3,j⟩:=h.li q hq;exact⟨B,h1,h2,h3,WW j h2 o⟩⟩
 have other:∀c,c≠x->(w.setCell ⟨x,k,none⟩ v).heap[c]?=w.heap[c]?:=fun c hc=>by
  unfold World.setCell;rw[Array.getElem?_modify,if_neg (fun e=>hc e.symm)]
 exact h.at_.other (other b h.xb.symm) (other g h.xg.symm)
theorem zI{w0 w:World}{b g x r:Nat}{L:List Nat}{vs:List Value}{Z:List (Value×List Nat)}{a:Int}(h:Dec w0 w b g x r L vs Z a){k:Nat}{v:Value}(hv:vs[k]?=some v):w.cell? ⟨x,k,none⟩=some v/\w.frozen? ⟨x,k,none⟩=false:=by
 have hc:=TR.cell_of_row h.row hv;rw[Nat.zero_add]at hc;refine⟨hc,?_⟩;obtain⟨arr,fz,h1,h2,h3,_⟩:=h.row;have c:=(List.getElem?_eq_some_iff.1 hv).1;have h2:0+vs.length+0*qX prog 42<=arr.size:=h2;unfold World.frozen?;rw[show w.heap[x]?=_ from h1];have:=h3 k (by omega);show(decide (fz.1<=k)&&decide (k<fz.2))=false;rw[Bool.and_eq_false_iff,decide_eq_false_iff_not,decide_eq_false_iff_not];omega
def zoS(w0:World)(b g x r:Nat)(L:List Nat)(vs:List Value)(Z:List (Value×List Nat))(v:Value)(e:Ending)(w2:World):Prop:=e = .returned v/\Dec w0 w2 b g x r L vs Z 0
section
variable{w0 w:World}{b g x r:Nat}{L L':List Nat}{vs:List Value}{Z:List (Value×List Nat)}
theorem zwO(h:Dec w0 w b g x r L vs Z 0){m v:Nat}(hb:m<=9000000000000000000)(a:uintR m L=some (v,L')):Calls prog 91 #[.pointer (some ⟨b,0,none⟩),.int .i64 (m:Nat)] w (zoS w0 b g x r L' vs Z (.int .i64 (v:Nat))):=
 (zeR h.at_ hb a).mono fun _ _ k=>⟨k.1,h.only k.2.2 k.2.1⟩
theorem zxY(h:Dec w0 w b g x r L vs Z 0){m:Nat}{M:List Nat}(hb:m<=1000000)(a:jS m L=some (M,L')):Calls prog 92 #[.pointer (some ⟨b,0,none⟩),.int .i64 (m:Nat)] w (zoS w0 b g x r L' vs Z (.string (str M))):=
 (zhm h.at_ hb a).mono fun _ _ k=>⟨k.1,h.only k.2.2 k.2.1⟩
theorem zzs(h:Dec w0 w b g x r L vs Z 0){v:Int}(a:zn6 L=some (v,L')):Calls prog 93 #[.pointer (some ⟨b,0,none⟩),.int .i64 (-9223372036854775808),.int .i64 9223372036854775807] w (zoS w0 b g x r L' vs Z (.int .i64 v)):=
 (zre h.at_ a).mono fun _ _ k=>⟨k.1,h.only k.2.2 k.2.1⟩
theorem zai{L L':List Nat}{w:World}(h:At w b g L 0){v:Bool}(a:ziM L=some (v,L')):Calls prog 94 #[.pointer (some ⟨b,0,none⟩)] w (OkP w b g L' (.bool v)):=by
 cases L with
 | nil=>cases a
 | cons y L=>
  have a:(if y<=1 then some (y==1,L) else none)=some (v,L'):=a;split at a
  .rename_i c;cases a;have:=zog h c
   have e:((y:Int)==1)=(y==1):=by
    rw[Bool.eq_iff_iff,beq_iff_eq,beq_iff_eq];omega
   rwa[e]at this
  .cases a
theorem zrC(h:Dec w0 w b g x r L vs Z 0){v:Bool}(a:ziM L=some (v,L')):Calls prog 94 #[.pointer (some ⟨b,0,none⟩)] w (zoS w0 b g x r L' vs Z (.bool v)):=
 (zai h.at_ a).mono fun _ _ k=>⟨k.1,h.only k.2.2 k.2.1⟩
end
end RD
end
end Go.AEv
