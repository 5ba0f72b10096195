/- A verified evaluator of Go code, and its soundness (EvSa). Conditions: those of each theorem. -/
import Derived.Test.YtaffhpgaagnjfaaGreatDoorEvK
import Derived.Laws.Sem
import Derived.Laws.Cells
open List Nat Array
set_option linter.unusedSectionVars false
namespace Go.AEv
section
universe u v
@[simp] theorem qK {α:Sort u} (t e:α):ifB true t e=t:=rfl
@[simp] theorem kT {α:Sort u} (t e:α):ifB false t e=e:=rfl
theorem zl{α:Sort u}(b:Bool)(t e:α):ifB b t e=if b then t else e:=by cases b<;>rfl
@[simp] theorem zAY {α:Type u}{β:Type v} (f:α->Option β):bnd none f=none:=rfl
@[simp] theorem qw {α:Type u}{β:Type v} (a:α) (f:α->Option β):bnd (some a) f=f a:=rfl
theorem ze{α:Type u}{c:Type v}{x:Option α}{f:α->Option c}{b:c}(h:bnd x f=some b):∃a,x=some a/\f a=some b:=by
 cases x with
 | none=>cases h
 | some a=>exact⟨a,rfl,h⟩
@[simp] theorem zm {α:Type u}{β:Sort v} (e:β) (f:α->β):zh none e f=e:=rfl
@[simp] theorem zd {α:Type u}{β:Sort v} (a:α) (e:β) (f:α->β):zh (some a) e f=f a:=rfl
@[simp] theorem zY {α:Sort u} (n:Nat) (f:Nat->α):frc n f=f n:=rfl
@[simp] theorem U8 {α:Sort u} (z:α) (s:Nat->α):qW 0 z s=z:=rfl
@[simp] theorem WL {α:Sort u} (n:Nat) (z:α) (s:Nat->α):qW (n+1) z s=s n:=rfl
@[simp] theorem Qm {α:Sort u} (n:Nat) (p q:Nat->α):Z5 (.ofNat n) p q=p n:=rfl
@[simp] theorem yG {α:Sort u} (n:Nat) (p q:Nat->α):Z5 (.negSucc n) p q=q n:=rfl
@[simp] theorem zgb {α:Type u}{β:Sort v} (z:β) (s:α->List α->β):lC [] z s=z:=rfl
@[simp] theorem ZK {α:Type u}{β:Sort v} (a:α) (l:List α) (z:β) (s:α->List α->β):lC (a::l) z s=s a l:=rfl
theorem zk(a b:Bool):zn a b=(a&&b):=by cases a<;>rfl
theorem qI(a:Bool):kI a = !a:=by cases a<;>rfl
theorem XG(a b:Bool):zoG a b=(a==b):=by cases a<;>cases b<;>rfl
theorem zu(a b:Nat):Nat.beq a b=(a==b):=by
 rw[Bool.eq_iff_iff];simp[beq_eq]
theorem zN(a b:Nat):blt a b=decide (a<b):=by
 rw[Bool.eq_iff_iff];simp[blt,succ_le_iff]
theorem zG(a b:Nat):Nat.ble a b=decide (a<=b):=by
 rw[Bool.eq_iff_iff];simp
theorem zg{α:Type u}{b:Bool}{t:Option α}{a:α}(h:ifB b t none=some a):b=true/\t=some a:=by
 cases b
 .cases h
 .exact⟨rfl,h⟩
theorem yI{α:Type u}{b:Bool}{t:Option α}{a:α}(h:ifB b none t=some a):b=false/\t=some a:=by
 cases b
 .exact⟨rfl,h⟩
 .cases h
theorem zhQ:∀(i j:Nat),path i=path j->i=j:=by
 have key:∀f i g j,i<f->j<g->Wb f i=Wb g j->i=j:=by
  intro f
  induction f with
  | zero=>intro i g j hi;omega
  | succ f c=>
   intro i g j hi n h
   cases g with
   | zero=>omega
   | succ g=>
    have l:∀f i,Wb (f+1) i=ifB (Nat.beq i 0) Pa.e (ifB (Nat.beq (Nat.mod i 2) 1) (.o (Wb f (Nat.div i 2))) (.i (Wb f (pred (Nat.div i 2))))):=fun _ _=>rfl;rw[l,l]at h;have m:∀i,Nat.mod i 2=i % 2:=fun _=>rfl;have d1:∀i,Nat.div i 2=i / 2:=fun _=>rfl;simp only[zl,beq_eq,m,d1,pred_eq_sub_one]at h;by_cases k:i=0
    .by_cases b:j=0
     .omega
     .rw[if_pos k,if_neg b]at h;split at h<;>cases h
    .rw[if_neg k]at h;by_cases b:j=0
     .rw[if_pos b]at h;split at h<;>cases h
     .rw[if_neg b]at h;by_cases d:i % 2=1
      .rw[if_pos d]at h;by_cases a:j % 2=1
       .rw[if_pos a]at h;injection h with h;have:=c (i / 2) g (j / 2) (by omega) (by omega) h;omega
       .rw[if_neg a]at h;cases h
      .rw[if_neg d]at h;by_cases a:j % 2=1
       .rw[if_pos a]at h;cases h
       .rw[if_neg a]at h;injection h with h;have:=c (i / 2-1) g (j / 2-1) (by omega) (by omega) h;omega
 intro i j h;exact key (i+1) i (j+1) j (by omega) (by omega) h
theorem JC{α:Type}(q:Pa):Yk q (Tr.nil:Tr α)=none:=by cases q<;>rfl
theorem VI{α:Type}(l:Tr α)(v:Option α)(r:Tr α):Yk .e (.node l v r)=v:=rfl
theorem QT{α:Type}(p:Pa)(l:Tr α)(v:Option α)(r:Tr α):Yk (.o p) (.node l v r)=Yk p l:=rfl
theorem QU{α:Type}(p:Pa)(l:Tr α)(v:Option α)(r:Tr α):Yk (.i p) (.node l v r)=Yk p r:=rfl
theorem zeG{α:Type}(a:Option α):∀(p q:Pa) (t:Tr α),Yk q (UX a p t)=if p=q then a else Yk q t:=by
 intro p
 induction p with
 | e=>
  intro q t
  cases t with
  | nil=>
   have h:UX a .e (Tr.nil:Tr α) = .node .nil a .nil:=rfl
   rw[h];cases q<;>simp[VI,QT,QU,JC]
  | node l v r=>
   have h:UX a .e (.node l v r) = .node l a r:=rfl
   rw[h];cases q<;>simp[VI,QT,QU]
 | o p b=>
  intro q t
  cases t with
  | nil=>
   have h:UX a (.o p) (Tr.nil:Tr α) = .node (UX a p .nil) none .nil:=rfl
   rw[h];cases q<;>simp[VI,QT,QU,JC,b]
  | node l v r=>
   have h:UX a (.o p) (.node l v r) = .node (UX a p l) v r:=rfl
   rw[h];cases q<;>simp[VI,QT,QU,b]
 | i p b=>
  intro q t
  cases t with
  | nil=>
   have h:UX a (.i p) (Tr.nil:Tr α) = .node .nil none (UX a p .nil):=rfl
   rw[h];cases q<;>simp[VI,QT,QU,JC,b]
  | node l v r=>
   have h:UX a (.i p) (.node l v r) = .node l v (UX a p r):=rfl;rw[h];cases q<;>simp[VI,QT,QU,b]
theorem Xd(f i:Nat):Wb (f+1) i=ifB (Nat.beq i 0) Pa.e (ifB (Nat.beq (Nat.mod i 2) 1) (.o (Wb f (Nat.div i 2))) (.i (Wb f (pred (Nat.div i 2))))):=rfl
theorem zcu:∀f g i,i<f->i<g->Wb f i=Wb g i:=by
 intro f
 induction f with
 | zero=>intro g i h;omega
 | succ f a=>
  intro g i d c
  cases g with
  | zero=>omega
  | succ g=>
   rw[Xd,Xd];by_cases b:i=0
   .subst b;rfl
   .have hd:Nat.div i 2<i:=div_lt_self (by omega) (by decide);have hp:pred (Nat.div i 2)<i:=Nat.lt_of_le_of_lt (pred_le _) hd;rw[a g (Nat.div i 2) (by omega) (by omega),a g (pred (Nat.div i 2)) (by omega) (by omega)]
theorem zp5(j:Nat):path (2*j+1) = .o (path j):=by
 unfold path;rw[show Nat.succ (2*j+1)=(2*j+1)+1 from rfl,Xd];have a:Nat.beq (2*j+1) 0=false:=rfl
 have h1:Nat.beq (Nat.mod (2*j+1) 2) 1=true:=by
  rw[zu,beq_iff_eq];show(2*j+1) % 2=1;omega
 have h2:Nat.div (2*j+1) 2=j:=by show(2*j+1) / 2=j;omega
 rw[a,kT,h1,qK,h2,zcu (2*j+1) (Nat.succ j) j (by omega) (by omega)]
theorem znJ(j:Nat):path (2*j+2) = .i (path j):=by
 unfold path;rw[show Nat.succ (2*j+2)=(2*j+2)+1 from rfl,Xd];have a:Nat.beq (2*j+2) 0=false:=rfl
 have h1:Nat.beq (Nat.mod (2*j+2) 2) 1=false:=by
  rw[zu];show((2*j+2) % 2==1)=false;simp
 have h2:pred (Nat.div (2*j+2) 2)=j:=by show(2*j+2) / 2-1=j;omega
 rw[a,kT,h1,kT,h2,zcu (2*j+2) (Nat.succ j) j (by omega) (by omega)]
theorem QB{α:Type}(l:Tr α)(v:Option α)(r:Tr α):(Tr.node l v r).get 0=v:=rfl
theorem yJ{α:Type}(l:Tr α)(v:Option α)(r:Tr α)(j:Nat):(Tr.node l v r).get (2*j+1)=l.get j:=by
 unfold Tr.get;rw[zp5,QT]
theorem kV{α:Type}(l:Tr α)(v:Option α)(r:Tr α)(j:Nat):(Tr.node l v r).get (2*j+2)=r.get j:=by
 unfold Tr.get;rw[znJ,QU]
namespace Tr
variable{α:Type}
theorem zK(t:Tr α)(i j:Nat)(a:α):(t.set i a).get j=if i=j then some a else t.get j:=by
 unfold Tr.set Tr.get;rw[zeG];by_cases h:i=j
 .simp[h]
 .rw[if_neg h,if_neg fun e=>h (zhQ _ _ e)]
theorem jc(t:Tr α)(i j:Nat):(t.del i).get j=if i=j then none else t.get j:=by
 unfold Tr.del Tr.get;rw[zeG];by_cases h:i=j
 .simp[h]
 .rw[if_neg h,if_neg fun e=>h (zhQ _ _ e)]
@[simp] theorem get_nil (i:Nat):(Tr.nil:Tr α).get i=none:=by
 unfold Tr.get;cases path i<;>rfl
theorem ze4(l:List α):∀(t:Tr α) (i j:Nat),(zhD l t i).get j=if i<=j/\j<i+l.length then l[j-i]? else t.get j:=by
 induction l with
 | nil=>intro t i j;rw[if_neg (by simp)];rfl
 | cons a l b=>
  intro t i j;have h:zhD (a::l) t i=zhD l (t.set i a) (i+1):=rfl;rw[h,b,zK];by_cases h1:i+1<=j/\j<i+1+l.length
  .rw[if_pos h1,if_pos (by simp;omega)];have:j-i=(j-(i+1))+1:=by omega
   rw[this,getElem?_cons_succ]
  .rw[if_neg h1];by_cases h2:i=j
   .subst h2;simp
   .rw[if_neg h2,if_neg (by simp;omega)]
theorem zm3(m:List α):∀j,(alt m true)[j]?=m[2*j]?/\(alt m false)[j]?=m[2*j+1]?:=by
 induction m with
 | nil=>intro j;exact⟨by simp[alt],by simp[alt]⟩
 | cons a m b=>
  have d:alt (a::m) true=a::alt m false:=rfl;have c:alt (a::m) false=alt m true:=rfl;intro j;rw[d,c];refine⟨?_,?_⟩
  .cases j with
   | zero=>rfl
   | succ j=>
    rw[getElem?_cons_succ,(b j).2,show 2*(j+1)=(2*j+1)+1 from by omega,getElem?_cons_succ]
  .rw[(b j).1,getElem?_cons_succ]
theorem zlA(m:List α):(alt m true).length<=m.length/\(alt m false).length<=m.length:=by
 induction m with
 | nil=>exact⟨Nat.le_refl _,Nat.le_refl _⟩
 | cons a m d=>
  have c:alt (a::m) true=a::alt m false:=rfl;have b:alt (a::m) false=alt m true:=rfl;rw[c,b,length_cons,length_cons];omega
theorem parts(i:Nat):i=0\/(∃j,i=2*j+1)\/∃j,i=2*j+2:=by
 rcases eq_zero_or_pos i with h|h
 .exact .inl h
 .rcases mod_two_eq_zero_or_one i with h2|h2
  .exact .inr (.inr ⟨i / 2-1,by omega⟩)
  .exact .inr (.inl ⟨i / 2,by omega⟩)
theorem zoe:∀(f:Nat) (l:List α) (j:Nat),l.length<=f->(build f l).get j=l[j]?:=by
 intro f
 induction f with
 | zero=>
  intro l j h
  cases l with
  | nil=>show(Tr.nil:Tr α).get j=_;rw[get_nil];simp
  | cons a l=>simp at h
 | succ f b=>
  intro l j h
  cases l with
  | nil=>show(Tr.nil:Tr α).get j=_;rw[get_nil];simp
  | cons a m=>
   have e:build (f+1) (a::m) = .node (build f (alt m true)) (some a) (build f (alt m false)):=rfl;have hl:=zlA m;simp only[length_cons]at h;rw[e];rcases parts j with rfl|⟨k,rfl⟩|⟨k,rfl⟩
   .rw[QB];rfl
   .rw[yJ,b _ _ (by omega),(zm3 m k).1,getElem?_cons_succ]
   .rw[kV,b _ _ (by omega),(zm3 m k).2,show 2*k+2=(2*k+1)+1 from rfl,getElem?_cons_succ]
theorem zin(l:List α):∀n,qS l n=l.length+n:=by
 induction l with
 | nil=>intro n;show n=_;simp
 | cons a l b=>intro n;show qS l (n+1)=_;rw[b];simp;omega
theorem qc(l:List α)(j:Nat):(ofList l).get j=l[j]?:=by
 unfold ofList;rw[zY,zin,zl];split
 .rw[ze4];by_cases h:j<l.length
  .rw[if_pos (by omega)];simp
  .rw[if_neg (by omega),get_nil,List.getElem?_eq_none (by omega)]
 .exact zoe _ _ _ (by omega)
theorem ztT(t:Tr α)(j:Nat):(lft t).get j=t.get (2*j+1):=by
 cases t with
 | nil=>show(Tr.nil:Tr α).get j=_;rw[get_nil,get_nil]
 | node l v r=>rw[yJ];rfl
theorem ztS(t:Tr α)(j:Nat):(rgt t).get j=t.get (2*j+2):=by
 cases t with
 | nil=>show(Tr.nil:Tr α).get j=_;rw[get_nil,get_nil]
 | node l v r=>rw[kV];rfl
theorem ztR(t:Tr α):top t=t.get 0:=by
 cases t with
 | nil=>rw[get_nil];rfl
 | node l v r=>rfl
theorem zry(u:Tr α)(lo hi:Nat):∀(f:Nat) (t:Tr α) (a s:Nat),hi<f+a->0<s->∀j,(over u lo hi f t a s).get j=if lo<=a+s*j/\a+s*j<hi then u.get (a+s*j-lo) else t.get j:=by
 intro f
 induction f with
 | zero=>
  intro t a s h hs j;rw[if_neg (by have:a<=a+s*j:=le_add_right _ _;omega)]
  rfl
 | succ f c=>
  intro t a s h hs j;have e:over u lo hi (f+1) t a s=ifB (Nat.ble hi a) t (.node (over u lo hi f (lft t) (a+s) (s+s)) (ifB (Nat.ble lo a) (u.get (a-lo)) (top t)) (over u lo hi f (rgt t) (a+s+s) (s+s))):=rfl;rw[e,zl,zG];by_cases hb:hi<=a
  .rw[if_pos (decide_eq_true hb),if_neg (by have:a<=a+s*j:=le_add_right _ _;omega)]
  .rw[if_neg (by simpa using hb)];rcases parts j with rfl|⟨k,rfl⟩|⟨k,rfl⟩
   .rw[QB,zl,zG];simp only[Nat.mul_zero,Nat.add_zero];by_cases hl:lo<=a
    .rw[if_pos (decide_eq_true hl),if_pos ⟨hl,by omega⟩]
    .rw[if_neg (by simpa using hl),if_neg (by omega),ztR]
   .have b:s*(2*k+1)=s+(s+s)*k:=by
     rw[Nat.mul_add,Nat.add_mul,<- Nat.mul_assoc,Nat.mul_comm s 2,Nat.mul_one,Nat.two_mul,Nat.add_mul];omega
    rw[yJ,c _ _ _ (by omega) (by omega),ztT,b,Nat.add_assoc]
   .have b:s*(2*k+2)=s+s+(s+s)*k:=by
     rw[Nat.mul_add,Nat.add_mul,<- Nat.mul_assoc,Nat.mul_comm s 2,Nat.two_mul,Nat.add_mul];omega
    rw[kV,c _ _ _ (by omega) (by omega),ztS,b];simp only[Nat.add_assoc]
theorem zde(l:List α)(t:Tr α)(i j:Nat):(zns l t i).get j=if i<=j/\j<i+l.length then l[j-i]? else t.get j:=by
 unfold zns;rw[zY,zin,zl];split
 .exact ze4 l t i j
 .rw[zY,zry _ _ _ _ _ _ _ (by omega) (by decide)];simp only[Nat.zero_add,Nat.one_mul,Nat.add_zero];rw[show Nat.add i l.length=i+l.length from rfl,qc]
theorem zkN(n:Nat):∀(t:Tr α) (i:Nat) (l:List α),kx n t i=some l->l.length=n/\∀k,k<n->t.get (i+k)=l[k]?:=by
 induction n with
 | zero=>intro t i l h;cases h;exact⟨rfl,fun k c=>by omega⟩
 | succ n b=>
  intro t i l h;have e:kx (n+1) t i=bnd (t.get i) fun a=>bnd (kx n t (i+1)) fun l=>some (a::l):=rfl;rw[e]at h;obtain⟨a,d,h⟩:=ze h;obtain⟨m,hm,h⟩:=ze h;cases h;obtain⟨h1,h2⟩:=b _ _ _ hm;refine⟨by simp[h1],fun k c=>?_⟩
  cases k with
  | zero=>simpa using d
  | succ k=>have:=h2 k (by omega);rw[getElem?_cons_succ,<- this];congr 1;omega
theorem zoc(t:Tr α):∀(h k i:Nat),kx (h+k) t i=bnd (kx h t i) fun l=>bnd (kx k t (i+h)) fun m=>some (l++m):=by
 intro h
 induction h with
 | zero=>
  intro k i;rw[Nat.zero_add];show _=bnd (kx k t (i+0)) fun m=>some ([]++m);rw[Nat.add_zero]
  cases kx k t i<;>rfl
 | succ h b=>
  intro k i;rw[show h+1+k=(h+k)+1 from by omega];show(bnd (t.get i) fun a=>bnd (kx (h+k) t (i+1)) fun l=>some (a::l))=bnd (bnd (t.get i) fun a=>bnd (kx h t (i+1)) fun l=>some (a::l)) fun l=>bnd (kx k t (i+(h+1))) fun m=>some (l++m);rw[b k (i+1),show i+1+h=i+(h+1) from by omega]
  cases t.get i with
  | none=>rfl
  | some a=>
   show(bnd (bnd (kx h t (i+1)) fun l=>bnd (kx k t (i+(h+1))) fun m=>some (l++m)) fun l=>some (a::l))=bnd (bnd (kx h t (i+1)) fun l=>some (a::l)) fun l=>bnd (kx k t (i+(h+1))) fun m=>some (l++m)
   cases kx h t (i+1) with
   | none=>rfl
   | some l=>
    show(bnd (bnd (kx k t (i+(h+1))) fun m=>some (l++m)) fun l=>some (a::l))=bnd (kx k t (i+(h+1))) fun m=>some (a::l++m);cases kx k t (i+(h+1))<;>rfl
theorem zgG(l m:List α):zP l m=l++m:=by
 induction l with
 | nil=>rfl
 | cons a l b=>show a::zP l m=_;rw[b];rfl
theorem zrw(t:Tr α):∀(f n i:Nat),ziI f n t i=kx n t i:=by
 intro f
 induction f with
 | zero=>intro n i;rfl
 | succ f a=>
  intro n i;have e:ziI (f+1) n t i=ifB (Nat.ble n 32) (kx n t i) (bnd (ziI f (n / 2) t i) fun l=>bnd (ziI f (n-n / 2) t (i+n / 2)) fun m=>some (zP l m)):=rfl;rw[e,zl];split
  .rfl
  .rw[a,a];have h:=zoc t (n / 2) (n-n / 2) i;rw[show n / 2+(n-n / 2)=n from by omega]at h;rw[h];simp only[zgG]
theorem zmG(n:Nat)(t:Tr α)(i:Nat):JX n t i=kx n t i:=zrw t 20 n i
theorem jx(n:Nat)(t:Tr α)(i:Nat)(l:List α)(h:JX n t i=some l):l.length=n/\∀k,k<n->t.get (i+k)=l[k]?:=zkN n t i l (by rw[<- zmG];exact h)
end Tr
theorem zmr{α:Type}(l:List α):∀n,qS l n=l.length+n:=by
 induction l with
 | nil=>intro n;show n=_;simp
 | cons a l b=>intro n;show qS l (n+1)=_;rw[b];simp;omega
@[simp] theorem jE {α:Type} (l:List α):qS l 0=l.length:=by rw[zmr];rfl
@[simp] theorem zT {α:Type} (l m:List α):zP l m=l++m:=by
 induction l with
 | nil=>rfl
 | cons a l ih=>show a::zP l m=_;rw[ih];rfl
@[simp] theorem jn {α β:Type} (f:α->β) (l:List α):mapA f l=l.map f:=by
 induction l with
 | nil=>rfl
 | cons a l ih=>show f a::mapA f l=_;rw[ih];rfl
@[simp] theorem Ko {α:Type} (n:Nat):∀l:List α,zb4 n l=l.take n:=by
 induction n with
 | zero=>intro l;rw[take_zero];rfl
 | succ n ih=>intro l;cases l with
  | nil=>rfl
  | cons a l=>show a::zb4 n l=_;rw[ih];rfl
@[simp] theorem zdq {α:Type} (n:Nat):∀l:List α,zff n l=l.drop n:=by
 induction n with
 | zero=>intro l;rfl
 | succ n ih=>intro l;cases l with
  | nil=>rfl
  | cons a l=>show zff n l=_;rw[ih];rfl
@[simp] theorem ye {α:Type} (n:Nat):∀l:List α,kY n l=l[n]?:=by
 induction n with
 | zero=>intro l;cases l<;>rfl
 | succ n ih=>intro l;cases l with
  | nil=>rfl
  | cons a l=>show kY n l=_;rw[ih];rfl
theorem ZX(p:zb->Bool)(l:List zb):Q0 p l=l.all p:=by
 induction l with
 | nil=>rfl
 | cons a l b=>show ifB (p a) (Q0 p l) false=_;rw[b];cases h:p a<;>simp[h]
theorem zl5(z:List zb)(n:Nat):Q9 z n=(List.replicate n z).flatten:=by
 induction n with
 | zero=>rfl
 | succ n a=>show zP z (Q9 z n)=_;rw[a,zT,List.replicate_succ,flatten_cons]
theorem QA(a b:Int):zah a b=(a==b):=by
 cases a<;>cases b<;>simp only[zah,Qm,yG,zu]<;>rw[Bool.eq_iff_iff]<;>simp<;>omega
theorem yu(a b:Int):ilt a b=decide (a<b):=by
 cases a<;>cases b<;>simp only[ilt,Qm,yG,zN]<;>rw[Bool.eq_iff_iff]<;>simp<;>omega
theorem KX(a:List Nat):∀b,zea a b=(a==b):=by
 induction a with
 | nil=>intro b;cases b<;>rfl
 | cons x a c=>
  intro b
  cases b with
  | nil=>rfl
  | cons y b=>
   show ifB (Nat.beq x y) (zea a b) false=_;rw[c,zu,zl];by_cases h:x=y<;>simp[h]
theorem Xk(a b:IntKind):zq7 a b=true↔a=b:=by cases a<;>cases b<;>decide
mutual
theorem zM:∀(a b:zb),qs a b=true->a=b
 | .bool a,b=>by cases b<;>simp[qs,XG]
 | .int k a,b=>by
  cases b<;>simp[qs,zk,QA,Xk]
 | .str s,b=>by cases b<;>simp[qs,KX]
 | .nilp,b=>by cases b<;>simp[qs]
 | .ptr x y,b=>by
  cases b<;>simp[qs,zk]
 | .nilslice,b=>by cases b<;>simp[qs]
 | .slice x y z u v,b=>by
  cases b<;>simp[qs,zk,XG]
 | .nilmap,b=>by cases b<;>simp[qs]
 | .map r,b=>by cases b<;>simp[qs]
 | .fn f l m,b=>by
  cases b<;>simp[qs,zk]
  intro h1 h2 h3;exact⟨h1,jC _ _ h2,jC _ _ h3⟩
 | .yieldf l,b=>by cases b<;>simp[qs]
 | .capv x y,b=>by
  cases b<;>simp[qs,zk]
 | .nilfn,b=>by cases b<;>simp[qs]
 | .iface t v,b=>by
  cases b<;>simp[qs,zk]
  intro h1 h2;exact⟨h1,zM _ _ h2⟩
 | .niliface,b=>by cases b<;>simp[qs]
 | .agg l,b=>by
  cases b<;>simp[qs]
  intro h;exact jC _ _ h
 | .tuple l,b=>by
  cases b<;>simp[qs]
  intro h;exact jC _ _ h
 | .sym i,b=>by cases b<;>simp[qs]
 | .esl x y z,b=>by cases b<;>simp[qs,zk]
 | .osl x v,b=>by
  cases b<;>simp[qs,zk]
  intro h1 h2;exact⟨h1,zM _ _ h2⟩
 | .psl a b c d e,v=>by cases v<;>simp[qs,zk,XG]
theorem jC:∀(a b:List zb),kv a b=true->a=b
 | [],b=>by cases b<;>simp[kv]
 | x::l,b=>by
  cases b with
  | nil=>simp[kv]
  | cons y m=>
   simp[kv,zk];intro h1 h2;exact⟨zM _ _ h1,jC _ _ h2⟩
end
end
section
theorem zjR(a k:Nat):Nat.shiftLeft a k=a*2 ^ k:=Nat.shiftLeft_eq a k
theorem zjP(a k:Nat):Nat.shiftRight a k=a / 2 ^ k:=Nat.shiftRight_eq_div_pow a k
theorem jU(N i:Nat):byteOf N i=N / 2 ^ (8*i) % 256:=by
 unfold byteOf;rw[zjP];rfl
theorem zoD(N i:Nat):byteOf N i<256:=by rw[jU];exact mod_lt _ (by decide)
theorem zlT(N o l:Nat):Y7 N o l=N / 2 ^ (8*o) % 2 ^ (8*l):=by
 unfold Y7;rw[zjP,zjR,Nat.one_mul];rfl
theorem zbR(n S M:Nat):zao n S M=S+M*2 ^ (8*n):=by
 unfold zao;rw[zjR];rfl
theorem UY{i l:Nat}(h:i<=l):2 ^ (8*l)=2 ^ (8*i)*2 ^ (8*(l-i)):=by
 rw[<- Nat.pow_add];congr 1;omega
theorem zrN{k:Nat}(h:1<=k):256 ∣ 2 ^ (8*k):=by
 have:2 ^ (8*k)=256*2 ^ (8*(k-1)):=by
  rw[show(256:Nat)=2 ^ 8 from rfl,<- Nat.pow_add];congr 1;omega
 rw[this];exact Nat.dvd_mul_right _ _
theorem V9{N o l i:Nat}(h:i<l):byteOf (Y7 N o l) i=byteOf N (o+i):=by
 rw[jU,jU,zlT,UY (Nat.le_of_lt h),mod_mul_right_div_self,mod_mod_of_dvd _ (zrN (by omega)),Nat.div_div_eq_div_mul,<- Nat.pow_add];congr 3;omega
theorem sub_lt(N o l:Nat):Y7 N o l<2 ^ (8*l):=by rw[zlT];exact mod_lt _ (Nat.pow_pos (by decide))
theorem XE{n S M i:Nat}(b:S<2 ^ (8*n)):byteOf (zao n S M) i=if i<n then byteOf S i else byteOf M (i-n):=by
 rw[jU,zbR];by_cases h:i<n
 .rw[if_pos h,jU,UY (Nat.le_of_lt h),Nat.mul_comm M,Nat.mul_assoc,add_mul_div_left _ _ (Nat.pow_pos (by decide))];obtain⟨k,a⟩:=zrN (k:=n-i) (by omega);rw[a,Nat.mul_assoc,add_mul_mod_self_left]
 .rw[if_neg h,jU,UY (show n<=i by omega),<- Nat.div_div_eq_div_mul,add_mul_div_right _ _ (Nat.pow_pos (by decide)),div_eq_of_lt b,Nat.zero_add]
theorem Ka(N k i:Nat):byteOf (Nat.shiftRight N (8*k)) i=byteOf N (k+i):=by
 rw[jU,jU,zjP,Nat.div_div_eq_div_mul,<- Nat.pow_add];congr 3;omega
namespace Tr
variable{α:Type}
theorem zrx(f:Nat->α):∀(d a s n j:Nat),n<=d->(tree f d a s n).get j=if j<n then some (f (a+s*j)) else none:=by
 intro d
 induction d with
 | zero=>
  intro a s n j h;have:n=0:=by omega
  subst this;rw[if_neg (by omega)]
  exact get_nil j
 | succ d g=>
  intro a s n j h
  cases n with
  | zero=>rw[if_neg (by omega)];exact get_nil j
  | succ m=>
   have e:tree f (d+1) a s (m+1) = .node (tree f d (a+s) (s+s) ((m+1) / 2)) (some (f a)) (tree f d (a+s+s) (s+s) (m / 2)):=rfl;rw[e];rcases parts j with rfl|⟨k,rfl⟩|⟨k,rfl⟩
   .rw[QB,if_pos (by omega),Nat.mul_zero,Nat.add_zero]
   .have c:s*(2*k+1)=s+(s+s)*k:=by
     rw[Nat.mul_add,Nat.add_mul,<- Nat.mul_assoc,Nat.mul_comm s 2,Nat.mul_one,Nat.two_mul,Nat.add_mul];omega
    rw[yJ,g _ _ _ _ (by omega),c,Nat.add_assoc];by_cases b:k<(m+1) / 2
    .rw[if_pos b,if_pos (by omega)]
    .rw[if_neg b,if_neg (by omega)]
   .have c:s*(2*k+2)=s+s+(s+s)*k:=by
     rw[Nat.mul_add,Nat.add_mul,<- Nat.mul_assoc,Nat.mul_comm s 2,Nat.two_mul,Nat.add_mul];omega
    rw[kV,g _ _ _ _ (by omega),c];by_cases b:k<m / 2
    .rw[if_pos b,if_pos (by omega)];simp only[Nat.add_assoc]
    .rw[if_neg b,if_neg (by omega)]
end Tr
theorem Ye(n N i:Nat):(unp n N).get i=if i<n then some (.int .u8 (.ofNat (byteOf N i))) else none:=by
 unfold unp;rw[Tr.zrx _ _ _ _ _ _ (Nat.le_refl n)];simp only[Nat.zero_add,Nat.one_mul];rfl
theorem unp0_get:∀(n N i:Nat),i<n->(unp0 n N)[i]?=some (byteOf N i)
 | 0,_,_,h=>by omega
 | n+1,N,i,h=>by
  have e:unp0 (n+1) N=(N % 256)::unp0 n (Nat.shiftRight N 8):=rfl;rw[e]
  cases i with
  | zero=>simp[jU]
  | succ i=>
   rw[getElem?_cons_succ,unp0_get n _ i (by omega)];have:=Ka N 1 i;rw[show 8*1=8 from rfl]at this;rw[this,Nat.add_comm 1 i]
theorem unp0_length:∀(n N:Nat),(unp0 n N).length=n
 | 0,_=>rfl
 | n+1,N=>by
  have e:unp0 (n+1) N=(N % 256)::unp0 n (Nat.shiftRight N 8):=rfl;rw[e,length_cons,unp0_length n]
theorem unpH_ok:∀(f n N:Nat),(unpH f n N).length=n/\∀i,i<n->(unpH f n N)[i]?=some (byteOf N i)
 | 0,n,N=>⟨unp0_length n N,fun i h=>unp0_get n N i h⟩
 | f+1,n,N=>by
  have e:unpH (f+1) n N=ifB (Nat.ble n 8) (unp0 n N) (zP (unpH f (n / 2) (Y7 N 0 (n / 2))) (unpH f (n-n / 2) (Nat.shiftRight N (8*(n / 2))))):=rfl;rw[e,zl];split
  .exact⟨unp0_length n N,fun i h=>unp0_get n N i h⟩
  .obtain⟨a,d⟩:=unpH_ok f (n / 2) (Y7 N 0 (n / 2));obtain⟨c,b⟩:=unpH_ok f (n-n / 2) (Nat.shiftRight N (8*(n / 2)));rw[Tr.zgG];refine⟨by rw[length_append,a,c];omega,fun i h=>?_⟩;by_cases hi:i<n / 2
   .rw[List.getElem?_append_left (by omega),d i hi,V9 hi,Nat.zero_add]
   .rw[List.getElem?_append_right (by omega),a,b _ (by omega),Ka];congr 2;omega
theorem unpB_eq:∀(n N:Nat) (r:List Nat),unpB n N r=unp0 n N++r
 | 0,_,_=>rfl
 | n+1,N,r=>by
  have e:unpB (n+1) N r=(N % 256)::unpB n (Nat.shiftRight N 8) r:=rfl;have a:unp0 (n+1) N=(N % 256)::unp0 n (Nat.shiftRight N 8):=rfl;rw[e,a,unpB_eq n,cons_append]
theorem unpA_eq:∀(f n N:Nat) (r:List Nat),unpA f n N r=unpH f n N++r
 | 0,n,N,r=>unpB_eq n N r
 | f+1,n,N,r=>by
  have e:unpA (f+1) n N r=ifB (Nat.ble n 8) (unpB n N r) (unpA f (n / 2) (Y7 N 0 (n / 2)) (unpA f (n-n / 2) (Nat.shiftRight N (8*(n / 2))) r)):=rfl;have a:unpH (f+1) n N=ifB (Nat.ble n 8) (unp0 n N) (zP (unpH f (n / 2) (Y7 N 0 (n / 2))) (unpH f (n-n / 2) (Nat.shiftRight N (8*(n / 2))))):=rfl;rw[e,a,zl,zl];split
  .exact unpB_eq n N r
  .rw[unpA_eq f,unpA_eq f,Tr.zgG,List.append_assoc]
theorem unpL_eq(n N:Nat):unpL n N=unpH 20 n N:=by
 unfold unpL;rw[unpA_eq,append_nil]
theorem unpL_length(n N:Nat):(unpL n N).length=n:=by rw[unpL_eq];exact(unpH_ok 20 n N).1
theorem unpL_get{n N i:Nat}(h:i<n):(unpL n N)[i]?=some (byteOf N i):=by rw[unpL_eq];exact(unpH_ok 20 n N).2 i h
theorem unpL_lt(n N:Nat):∀b∈unpL n N,b<256:=by
 intro b hb;obtain⟨i,hi,rfl⟩:=List.getElem_of_mem hb;rw[unpL_length]at hi;have:=unpL_get (N:=N) hi;rw[List.getElem?_eq_getElem (by rw[unpL_length];exact hi)]at this;rw[Option.some.inj this];exact zoD _ _
theorem zki(b:Nat)(l:List Nat)(acc k:Nat):XL (b::l) acc k=XL l (acc+b*2 ^ k) (k+8):=by
 show XL l (Nat.add acc (Nat.shiftLeft b k)) (k+8)=_;rw[zjR];rfl
theorem zhU:∀(l:List Nat) (acc n:Nat),(∀b∈l,b<256)->acc<2 ^ (8*n) ->
  XL l acc (8*n)<2 ^ (8*(n+l.length))/\∀i,byteOf (XL l acc (8*n)) i=if i<n then byteOf acc i else(l[i-n]?).getD 0
 | [],acc,n,_,ha=>by
  have e:XL [] acc (8*n)=acc:=rfl;rw[e];refine⟨ha,fun i=>?_⟩;by_cases h:i<n
  .rw[if_pos h]
  .rw[if_neg h,jU,div_eq_of_lt]
   .rfl
   .exact Nat.lt_of_lt_of_le ha (Nat.pow_le_pow_right (by decide) (by omega))
 | b::l,acc,n,hl,ha=>by
  have hb:=hl b mem_cons_self;have c:acc+b*2 ^ (8*n)=zao n acc b:=(zbR n acc b).symm
  have a:zao n acc b<2 ^ (8*(n+1)):=by
   rw[zbR,show 8*(n+1)=8*n+8 from by omega,Nat.pow_add];have:b*2 ^ (8*n)<=255*2 ^ (8*n):=mul_le_mul_right _ (by omega);have e:2 ^ (8*n)*2 ^ 8=256*2 ^ (8*n):=by rw[Nat.mul_comm]
   rw[e];omega
  rw[zki,c,show 8*n+8=8*(n+1) from by omega];obtain⟨h1,h2⟩:=zhU l (zao n acc b) (n+1) (fun x hx=>hl x (mem_cons_of_mem _ hx)) a;refine⟨by rw[length_cons,show n+(l.length+1)=n+1+l.length from by omega];exact h1,fun i=>?_⟩;rw[h2,XE ha];by_cases h:i<n
  .rw[if_pos (by omega),if_pos h,if_pos h]
  .by_cases h3:i=n
   .subst h3;rw[if_pos (by omega),if_neg h,if_neg h,Nat.sub_self];simp[jU,mod_eq_of_lt hb]
   .rw[if_neg (by omega),if_neg h,show i-n=(i-(n+1))+1 from by omega,getElem?_cons_succ]
end
section
def JB(v:Value):Bool:=match v with|.agg _=>false|.tuple _=>false|_=>true
class Unk where
 val:Nat->Value
 plain:∀i,JB (val i)=true
 place:Nat->Nat×Nat×Nat
 glob:∀g,g<60->place g=(g,0,0)
variable[Unk]
abbrev Inj:=Nat->Option (Nat×Nat×Nat)
def Inj.blk(β:Inj)(b:Nat):Nat:=((β b).getD (0,0,0)).1
def Inj.sh(β:Inj)(b:Nat):Nat:=((β b).getD (0,0,0)).2.1
def Inj.ext(β:Inj)(b:Nat):Nat:=((β b).getD (0,0,0)).2.2
def Inj.addr(β:Inj)(b off:Nat):Addr:=⟨β.blk b,β.sh b+off,none⟩
def str(s:List Nat):ByteArray:=⟨(s.map UInt8.ofNat).toArray⟩
def kOf:Nat->Option IntKind
 | 0=>some .i8|1=>some .i16|2=>some .i32|3=>some .i64|4=>some .u8|5=>some .u16|6=>some .u32|7=>some .u64|_=>none
def strOf:Nat->Nat->List UInt8
 | 0,_=>[]
 | f+1,n=>if n<=1 then[] else UInt8.ofNat (n % 256)::strOf f (n / 256)
def qe(x:Nat×Nat×Nat):Value:=
 match x.2.1 with
 | 0=>Unk.val x.1
 | m+1=>
  match kOf x.1 with
  | some k=>.int k ((m:Int)-x.2.2)
  | none=>match x.1 with
   | 9=>.bool (m==1)
   | _=>.string ⟨(strOf m m).toArray⟩
theorem zhi(b:Bool):∃x,qe x = .bool b:=by
 cases b
 .exact⟨(9,1,0),rfl⟩
 .exact⟨(9,2,0),rfl⟩
theorem zjI(k:IntKind)(n:Int):∃x,qe x = .int k n:=by
 refine⟨(zeX k,n.toNat+1,(-n).toNat),?_⟩;have h:kOf (zeX k)=some k:=by cases k<;>rfl
 simp only[qe,h];congr 1
 omega
def ofStr:List UInt8->Nat
 | []=>1
 | b::l=>256*ofStr l+b.toNat
theorem zeQ:∀l,1<=ofStr l
 | []=>Nat.le_refl _
 | b::l=>by have:=zeQ l;simp only[ofStr];omega
theorem X0:∀(l:List UInt8) (f:Nat),ofStr l<=f->strOf f (ofStr l)=l
 | [],f,h=>by cases f<;>simp[strOf,ofStr]
 | b::l,f,h=>by
  have h1:=zeQ l;have hb:=b.toNat_lt
  cases f with
  | zero=>simp only[ofStr]at h;omega
  | succ f=>
   simp only[ofStr]at h ⊢;have c:(256*ofStr l+b.toNat) % 256=b.toNat:=by omega
   have a:(256*ofStr l+b.toNat) / 256=ofStr l:=by omega
   rw[strOf,if_neg (by omega),c,a,X0 l f (by omega)];simp
theorem zjH(s:ByteArray):∃x,qe x = .string s:=by
 refine⟨(8,ofStr s.data.toList+1,0),?_⟩;simp only[qe,kOf];rw[X0 _ _ (Nat.le_refl _)]
theorem zb7(x:Nat×Nat×Nat):JB (qe x)=true:=by
 unfold qe;split
 .exact Unk.plain _
 .split
  .rfl
  .split<;>rfl
theorem zhh(g n:Nat):qe (g,0,n)=Unk.val g:=rfl
def sOf(v:Value):ByteArray:=match v with|.string s=>s|_=>.empty
def zh6(v:Value):Nat:=match v with|.int _ n=>n.toNat|_=>0
mutual
def zc(β:Inj):zb->Value
 | .bool b=>.bool b
 | .int k n=>.int k n
 | .str s=>.string (str s)
 | .nilp=>.pointer none
 | .ptr b off=>.pointer (some (β.addr b off))
 | .nilslice=>.slice none 0 0
 | .slice b off l c ex=>.slice (some (β.addr b off)) l (if ex then c else c+β.ext b)
 | .nilmap=>.map none
 | .map r=>.map (some (β.blk r))
 | .fn f l m=>.func (.func f) (zf β l).toArray (zf β m).toArray
 | .yieldf l=>.func (.yield (β.blk l)) #[] #[]
 | .capv b c=>.int .i64 ((c+β.ext b:Nat):Int)
 | .nilfn=>.nilFunc
 | .iface t v=>.iface t (zc β v)
 | .niliface=>.nilIface
 | .agg l=>.agg (zf β l).toArray
 | .tuple l=>.tuple (zf β l).toArray
 | .sym i=>qe ((β i).getD (0,0,0))
 | .esl b o q=>.slice (some (if β.ext b=0 then β.addr b o else β.addr b q)) 0 (β.ext b)
 | .osl b v=>.slice (some (β.addr b 0)) (sOf (zc β v)).size (β.ext b)
 | .psl b o q c ex=>.slice (some (β.addr b o)) (zh6 (qe ((β q).getD (0,0,0)))) (if ex then c else c+β.ext b)
def zf(β:Inj):List zb->List Value
 | []=>[]
 | v::l=>zc β v::zf β l
end
mutual
def WF(β:Inj):zb->Prop
 | .str s=>∀b∈s,b<256
 | .ptr b _=>(β b).isSome
 | .slice b _ l c _=>(β b).isSome/\l<=c
 | .map r=>(β r).isSome
 | .fn _ l m=>WFs β l/\WFs β m
 | .yieldf l=>(β l).isSome
 | .capv b _=>(β b).isSome
 | .iface _ v=>WF β v
 | .agg l=>WFs β l
 | .tuple l=>WFs β l
 | .sym i=>(β i).isSome
 | .esl b _ _=>(β b).isSome
 | .osl b v=>(β b).isSome/\WF β v/\∃s,zc β v = .string s/\s.size<=β.ext b
 | .psl b _ q c _=>(β b).isSome/\(β q).isSome/\∃n:Nat,qe ((β q).getD (0,0,0)) = .int .i64 (n:Int)/\n<=c
 | _=>True
def WFs(β:Inj):List zb->Prop
 | []=>True
 | v::l=>WF β v/\WFs β l
end
theorem zx(b:Inj)(l:List zb):zf b l=l.map (zc b):=by
 induction l with
 | nil=>rfl
 | cons a l c=>rw[zf,c];rfl
theorem zV(b:Inj)(l:List zb):WFs b l↔∀v∈l,WF b v:=by
 induction l with
 | nil=>simp[WFs]
 | cons a l c=>rw[WFs,c];simp
def Inj.le(β β':Inj):Prop:=∀id x,β id=some x->β' id=some x
theorem Inj.le.refl(a:Inj):a.le a:=fun _ _ h=>h
theorem Inj.le.trans{a b c:Inj}(h:a.le b)(k:b.le c):a.le c:=fun _ _ e=>k _ _ (h _ _ e)
theorem Inj.le.some{a β':Inj}(h:a.le β'){b:Nat}(hb:(a b).isSome):β' b=a b:=by
 obtain⟨x,hx⟩:=Option.isSome_iff_exists.1 hb;rw[hx];exact h _ _ hx
mutual
theorem WF.mono{β β':Inj}(h:β.le β'):∀v,WF β v->WF β' v/\zc β' v=zc β v
 | .bool _,_=>⟨trivial,rfl⟩
 | .int _ _,_=>⟨trivial,rfl⟩
 | .str _,w=>⟨by simpa[WF] using w,rfl⟩
 | .nilp,_=>⟨trivial,rfl⟩
 | .ptr b _,w=>by
  simp only[WF]at w ⊢;have e:=h.some w
  exact⟨e ▸ w,by simp[zc,Inj.addr,Inj.blk,Inj.sh,e]⟩
 | .nilslice,_=>⟨trivial,rfl⟩
 | .slice b _ _ _ _,w=>by
  simp only[WF]at w ⊢;have e:=h.some w.1
  exact⟨⟨e ▸ w.1,w.2⟩,by simp[zc,Inj.addr,Inj.blk,Inj.sh,Inj.ext,e]⟩
 | .nilmap,_=>⟨trivial,rfl⟩
 | .map r,w=>by
  simp only[WF]at w ⊢;have e:=h.some w
  exact⟨e ▸ w,by simp[zc,Inj.blk,e]⟩
 | .fn f l m,w=>by
  simp only[WF]at w ⊢;obtain⟨d,a⟩:=WFs.mono h l w.1;obtain⟨z,y⟩:=WFs.mono h m w.2
  exact⟨⟨d,z⟩,by simp[zc,a,y]⟩
 | .yieldf l,w=>by
  simp only[WF]at w ⊢;have e:=h.some w
  exact⟨e ▸ w,by simp[zc,Inj.blk,e]⟩
 | .capv b _,w=>by
  simp only[WF]at w ⊢;have e:=h.some w
  exact⟨e ▸ w,by simp[zc,Inj.ext,e]⟩
 | .nilfn,_=>⟨trivial,rfl⟩
 | .iface t v,w=>by
  simp only[WF]at w ⊢;obtain⟨d,a⟩:=WF.mono h v w
  exact⟨d,by simp[zc,a]⟩
 | .niliface,_=>⟨trivial,rfl⟩
 | .agg l,w=>by
  simp only[WF]at w ⊢;obtain⟨d,a⟩:=WFs.mono h l w
  exact⟨d,by simp[zc,a]⟩
 | .tuple l,w=>by
  simp only[WF]at w ⊢;obtain⟨d,a⟩:=WFs.mono h l w
  exact⟨d,by simp[zc,a]⟩
 | .sym i,w=>by
  simp only[WF]at w ⊢;have e:=h.some w
  exact⟨e ▸ w,by simp[zc,e]⟩
 | .esl b _ _,w=>by
  simp only[WF]at w ⊢;have e:=h.some w;have g:β'.ext b=β.ext b:=by simp[Inj.ext,e]
  have k:∀o,β'.addr b o=β.addr b o:=fun o=>by simp[Inj.addr,Inj.blk,Inj.sh,e]
  exact⟨e ▸ w,by simp only[zc,g,k]⟩
 | .osl b v,w=>by
  simp only[WF]at w ⊢;obtain⟨j,w2,s,u,p⟩:=w;have e:=h.some j;have g:β'.ext b=β.ext b:=by simp[Inj.ext,e]
  have k:∀o,β'.addr b o=β.addr b o:=fun o=>by simp[Inj.addr,Inj.blk,Inj.sh,e]
  obtain⟨d,a⟩:=WF.mono h v w2
  exact⟨⟨e ▸ j,d,s,by rw[a];exact u,by rw[g];exact p⟩,by simp only[zc,g,k,a]⟩
 | .psl b o q c x,w=>by
  simp only[WF]at w ⊢;obtain⟨j,w2,n,u,p⟩:=w;have e:=h.some j;have f:=h.some w2;have g:β'.ext b=β.ext b:=by simp[Inj.ext,e]
  have k:∀o,β'.addr b o=β.addr b o:=fun o=>by simp[Inj.addr,Inj.blk,Inj.sh,e]
  exact⟨⟨e ▸ j,f ▸ w2,n,by rw[f];exact u,p⟩,by simp only[zc,g,k,f]⟩
theorem WFs.mono{β β':Inj}(h:β.le β'):∀l,WFs β l->WFs β' l/\zf β' l=zf β l
 | [],_=>⟨trivial,rfl⟩
 | v::l,w=>by
  simp only[WFs]at w ⊢;obtain⟨d,c⟩:=WF.mono h v w.1;obtain⟨b,a⟩:=WFs.mono h l w.2;exact⟨⟨d,b⟩,by simp[zf,c,a]⟩
end
@[simp] theorem Xx (β:Inj):zc β jf=undef:=by simp[jf,zc,zf,undef]
@[simp] theorem zBd (β:Inj):WF β jf:=by simp[jf,WF,WFs]
def qX(P:Program)(t:TypeId):Nat:=((P.types[t]?).map (·.size)).getD 0
structure j9(P:Program)(β:Inj)(t:TypeId)(n:Nat)(c:Tr zb)(sh ext:Nat)(arr:Array Value)(fz:Nat×Nat):Prop where
 size:sh+n+ext*qX P t<=arr.size
 cell:∀i v,c.get i=some v->WF β v/\arr[sh+i]?=some (zc β v)
 thaw:∀i,i<arr.size->¬(fz.1<=i/\i<fz.2)
 al:qX P t ∣ sh
def QN(β:Inj)(e:zb×zb×Nat):MapEntry:=⟨zc β e.1,zc β e.2.1,e.2.2⟩
noncomputable def tv(T:Tr zb)(i:Nat):zb:=(T.get i).getD jf
def TV(β:Inj)(v:zb)(x:Value):Prop:=zaZ v=true\/(WF β v/\x=zc β v)
theorem TV.known{a:Inj}{v:zb}{x:Value}(h:TV a v x)(hv:zaZ v=false):WF a v/\x=zc a v:=by
 rcases h with h|h
 .rw[hv]at h;cases h
 .exact h
structure yh(β:Inj)(n:Nat)(T:Tr zb)(arr:Array Value):Prop where
 size:arr.size=n
 tmp:∀i,TV β (tv T i) (arr.getD i undef)
structure ZY(P:Program)(β:Inj)(k:IntKind)(t:TypeId)(v:zb)(sh ext:Nat)(arr:Array Value)(fz:Nat×Nat):Prop where
 wf:WF β v
 is:∃s,zc β v = .string s/\s.size<=ext
 size:sh+ext<=arr.size
 cell:∀i (b:UInt8),(sOf (zc β v)).data[i]?=some b->arr[sh+i]?=some (.int k b.toNat)
 thaw:∀i,i<arr.size->¬(fz.1<=i/\i<fz.2)
 one:qX P t=1
def zH(P:Program)(β:Inj)(b:zo)(x:Nat×Nat×Nat)(w:World):Prop:=
 match b with
 | .cells t n c=>∃arr fz,w.heap[x.1]?=some (.cells arr t fz)/\j9 P β t n c x.2.1 x.2.2 arr fz
 | .map es clock=>∃arr,w.heap[x.1]?=some (.map arr clock)/\arr.toList=es.map (QN β)/\∀e∈es,WF β e.2.1/\WF β e.1/\zaV e.1=true
 | .loop st pend fn n T ps assign body=>
  ∃tmps defers,w.heap[x.1]?=some (.loop { state:=st,pending:=pend,fn:=fn,tmps:=tmps,params:=ps,assign:=assign,body:=body,defers:=defers })/\yh β n T tmps
 | .siter s pos=>w.heap[x.1]?=some (.stringIter (str s) pos)/\x.2.1=0/\∀b∈s,b<256
 | .text t v=>∃arr fz,w.heap[x.1]?=some (.cells arr t fz)/\ZY P β .u8 t v x.2.1 x.2.2 arr fz
 | .pack t n N=>∃arr fz,w.heap[x.1]?=some (.cells arr t fz)/\j9 P β t n (unp n N) x.2.1 x.2.2 arr fz
 | .ints t v=>∃arr fz,w.heap[x.1]?=some (.cells arr t fz)/\ZY P β .i64 t v x.2.1 x.2.2 arr fz
 | .view c=>∃arr t fz,w.heap[x.1]?=some (.cells arr t fz)/\∀i v,c.get i=some v->WF β v/\arr[x.2.1+i]?=some (zc β v)
structure Rel(P:Program)(β:Inj)(H:Heap)(w:World):Prop where
 base:100<=H.next
 blk:∀id b x,H.blk.get id=some b->β id=some x->zH P β b x w
 inj:∀id id' b b' x x',H.blk.get id=some b->β id=some x->H.blk.get id'=some b'->β id'=some x'->x.1=x'.1->id=id'\/(id<100/\id'<100)
 bnd:∀id x,β id=some x->id<H.next
 live:∀id b,H.blk.get id=some b->id<H.next
theorem Rel.Ze{P:Program}{c:Inj}{H:Heap}{w:World}(h:Rel P c H w){id a:Nat}{b b':zo}{x d:Nat×Nat×Nat}(hw:100<=id\/100<=a)(h1:H.blk.get id=some b)(h2:c id=some x)
  (h3:H.blk.get a=some b') (h4:c a=some d) (e:x.1=d.1):id=a:=by
 rcases h.inj id a b b' x d h1 h2 h3 h4 e with h|⟨h,h'⟩
 .exact h
 .omega
def zaA(β:Inj)(H:Heap)(c:Nat):Prop:=∃id b x,H.blk.get id=some b/\β id=some x/\x.1=c
def Range(β:Inj)(H:Heap)(c:Nat):Prop:=∃id b x,100<=id/\H.blk.get id=some b/\β id=some x/\x.1=c
theorem Range.all{a:Inj}{H:Heap}{c:Nat}(h:Range a H c):zaA a H c:=by
 obtain⟨i,b,x,_,h⟩:=h;exact⟨i,b,x,h⟩
structure Ext(β:Inj)(H:Heap)(w:World)(β':Inj)(H':Heap)(w':World):Prop where
 old:∀id,id<H.next->β' id=β id
 next:H.next<=H'.next
 apart:∀id,id<H.next->β id=none->H'.blk.get id=H.blk.get id
 gone:∀id b,id<H.next->H'.blk.get id=some b->∃b',H.blk.get id=some b'
 ro:∀id,id<100->H'.blk.get id=H.blk.get id
 new:∀id x,H.next<=id->β' id=some x->w.heap.size<=x.1\/Range β H x.1
 frame:∀c,c<w.heap.size->¬Range β H c->w'.heap[c]?=w.heap[c]?
 size:w.heap.size<=w'.heap.size
 tape:w'.tape=w.tape
 os:w'.os=w.os
 output:w'.output=w.output
theorem Ext.refl(a:Inj)(H:Heap)(w:World)(hb:∀id x,a id=some x->id<H.next):Ext a H w a H w where
 old:=fun _ _=>rfl
 next:=Nat.le_refl _
 apart:=fun _ _ _=>rfl
 gone:=fun _ b _ h=>⟨b,h⟩
 ro:=fun _ _=>rfl
 new:=fun id x h e=>absurd (hb _ _ e) (by omega)
 frame:=fun _ _ _=>rfl
 size:=Nat.le_refl _
 tape:=rfl
 os:=rfl
 output:=rfl
theorem Ext.le{a β':Inj}{H H':Heap}{w w':World}(h:Ext a H w β' H' w')(hb:∀id x,a id=some x->id<H.next):a.le β':=
 fun id x e=>by rw[h.old id (hb _ _ e)];exact e
theorem Ext.trans{l β' β'':Inj}{H H' j:Heap}{w w' a:World}(h:Ext l H w β' H' w')(k:Ext β' H' w' β'' j a):Ext l H w β'' j a where
 old:=fun id hid=>by rw[k.old id (Nat.lt_of_lt_of_le hid h.next),h.old id hid]
 next:=Nat.le_trans h.next k.next
 apart:=fun id hid e=>by rw[k.apart id (Nat.lt_of_lt_of_le hid h.next) (by rw[h.old id hid];exact e),h.apart id hid e]
 gone:=fun id b hid e=>by
  obtain⟨b',g⟩:=k.gone id b (Nat.lt_of_lt_of_le hid h.next) e;exact h.gone id b' hid g
 ro:=fun id hid=>(k.ro id hid).trans (h.ro id hid)
 new:=fun id x hid e=>by
  have aux:∀c,Range β' H' c->w.heap.size<=c\/Range l H c:=by
   rintro c ⟨i,b,y,o,n,f,rfl⟩
   by_cases hi:i<H.next
   .obtain⟨b',g⟩:=h.gone i b hi n;exact .inr ⟨i,b',y,o,g,by rw[<- h.old i hi];exact f,rfl⟩
   .exact h.new i y (by omega) f
  by_cases hi:id<H'.next
  .exact h.new id x hid (by rw[<- k.old id hi];exact e)
  .rcases k.new id x (by omega) e with hs|d
   .exact .inl (Nat.le_trans h.size hs)
   .exact aux _ d
 frame:=fun c hc d=>by
  rw[k.frame c (Nat.lt_of_lt_of_le hc h.size) ?_,h.frame c hc d];rintro⟨i,b,y,o,n,f,rfl⟩
  by_cases hi:i<H.next
  .obtain⟨b',g⟩:=h.gone i b hi n;exact d ⟨i,b',y,o,g,by rw[<- h.old i hi];exact f,rfl⟩
  .rcases h.new i y (by omega) f with hs|m
   .omega
   .exact d m
 size:=Nat.le_trans h.size k.size
 tape:=k.tape.trans h.tape
 os:=k.os.trans h.os
 output:=k.output.trans h.output
end
section
variable[Unk]
theorem TV.mono{β β':Inj}{v:zb}{x:Value}(h:TV β v x)(l:β.le β'):TV β' v x:=by
 rcases h with h|⟨a,b⟩
 .exact .inl h
 .obtain⟨c,d⟩:=WF.mono l _ a;exact .inr ⟨c,by rw[b,d]⟩
theorem yh.mono{β β':Inj}{n:Nat}{T:Tr zb}{arr:Array Value}(h:yh β n T arr)(l:β.le β'):yh β' n T arr where
 size:=h.size
 tmp:=fun i=>(h.tmp i).mono l
theorem j9.mono{P:Program}{β β':Inj}{t:TypeId}{n:Nat}{c:Tr zb}{sh ext:Nat}{arr:Array Value}{fz:Nat×Nat}
  (h:j9 P β t n c sh ext arr fz) (l:β.le β'):j9 P β' t n c sh ext arr fz where
 size:=h.size
 cell:=fun i v e=>by
  obtain⟨a,b⟩:=h.cell i v e;obtain⟨c,d⟩:=WF.mono l _ a;exact⟨c,by rw[b,d]⟩
 thaw:=h.thaw
 al:=h.al
theorem j9.bytes{P:Program}{a β':Inj}{t:TypeId}{n m N:Nat}{sh ext:Nat}{arr:Array Value}{fz:Nat×Nat}(h:j9 P a t n (unp m N) sh ext arr fz):j9 P β' t n (unp m N) sh ext arr fz where
 size:=h.size
 cell:=fun i v e=>by
  obtain⟨_,b⟩:=h.cell i v e;rw[Ye]at e;split at e
  .cases e;exact⟨trivial,b⟩
  .cases e
 thaw:=h.thaw
 al:=h.al
theorem ZY.mono{P:Program}{β β':Inj}{k:IntKind}{t:TypeId}{v:zb}{sh ext:Nat}{arr:Array Value}{fz:Nat×Nat}(h:ZY P β k t v sh ext arr fz)(l:β.le β'):ZY P β' k t v sh ext arr fz:=by
 obtain⟨a,b⟩:=WF.mono l _ h.wf;exact⟨a,by rw[b];exact h.is,h.size,by rw[b];exact h.cell,h.thaw,h.one⟩
theorem zdn{a β':Inj}(l:a.le β')(e:zb×zb×Nat)(w:WF a e.2.1)(k:WF a e.1):QN β' e=QN a e:=by
 obtain⟨_,d⟩:=WF.mono l _ w;obtain⟨_,b⟩:=WF.mono l _ k;simp[QN,d,b]
theorem zcT{β β':Inj}{v:zb}(h:kl v=true)(w:WF β v):WF β' v/\zc β' v=zc β v:=by
 cases v<;>first|exact⟨w,rfl⟩|cases h
theorem zaU{β β':Inj}:∀ {l:List zb},l.all kl=true->WFs β l->WFs β' l/\zf β' l=zf β l
 | [],_,_=>⟨trivial,rfl⟩
 | v::l,h,w=>by
  rw[all_cons,Bool.and_eq_true]at h;obtain⟨d,c⟩:=zcT (β':=β') h.1 w.1;obtain⟨b,a⟩:=zaU h.2 w.2;exact⟨⟨d,b⟩,by rw[zf,zf,c,a]⟩
theorem YI{β β':Inj}{v:zb}(h:zaV v=true)(w:WF β v):WF β' v/\zc β' v=zc β v:=by
 cases v
 case agg l=>
  have h:l.all kl=true:=by have h:Q0 kl l=true:=h;rwa[ZX]at h
  obtain⟨b,a⟩:=zaU (β':=β') h w;exact⟨b,by rw[zc,zc,a]⟩
 all_goals exact zcT h w
theorem zH.mono{P:Program}{β β':Inj}{b:zo}{x:Nat×Nat×Nat}{w:World}(h:zH P β b x w)(l:β.le β'):zH P β' b x w:=by
 cases b with
 | cells t n c=>obtain⟨arr,fz,h1,h2⟩:=h;exact⟨arr,fz,h1,h2.mono l⟩
 | map es clock=>
  obtain⟨arr,h1,h2,h3⟩:=h;refine⟨arr,h1,?_,fun e he=>⟨(WF.mono l _ (h3 e he).1).1,(WF.mono l _ (h3 e he).2.1).1,(h3 e he).2.2⟩⟩;rw[h2]
  exact(List.map_congr_left fun e he=>zdn l e (h3 e he).1 (h3 e he).2.1).symm
 | loop st a fn n T j assign body=>obtain⟨tmps,d,h1,h2⟩:=h;exact⟨tmps,d,h1,h2.mono l⟩
 | siter s p=>exact h
 | text t v=>obtain⟨arr,fz,h1,h2⟩:=h;exact⟨arr,fz,h1,h2.mono l⟩
 | pack t n N=>obtain⟨arr,fz,h1,h2⟩:=h;exact⟨arr,fz,h1,h2.mono l⟩
 | ints t v=>obtain⟨arr,fz,h1,h2⟩:=h;exact⟨arr,fz,h1,h2.mono l⟩
 | view c=>
  obtain⟨arr,t,fz,h1,h2⟩:=h;refine⟨arr,t,fz,h1,fun i v hv=>?_⟩;obtain⟨g,f⟩:=WF.mono l v (h2 i v hv).1;exact⟨g,by rw[f];exact(h2 i v hv).2⟩
theorem zH.heap{P:Program}{a:Inj}{b:zo}{x:Nat×Nat×Nat}{w w':World}(h:zH P a b x w)(e:w'.heap[x.1]?=w.heap[x.1]?):zH P a b x w':=by
 cases b<;>simpa only[zH,e] using h
theorem zH.lt{P:Program}{e:Inj}{b:zo}{x:Nat×Nat×Nat}{w:World}(h:zH P e b x w):x.1<w.heap.size:=by
 cases b with
 | cells t n c=>obtain⟨arr,fz,h1,h2⟩:=h;exact(Array.getElem?_eq_some_iff.1 h1).1
 | map es clock=>obtain⟨arr,h1,h2⟩:=h;exact(Array.getElem?_eq_some_iff.1 h1).1
 | loop st a fn n T f assign body=>obtain⟨tmps,d,h1,h2⟩:=h;exact(Array.getElem?_eq_some_iff.1 h1).1
 | siter s p=>exact(Array.getElem?_eq_some_iff.1 h.1).1
 | text t v=>obtain⟨arr,fz,h1,h2⟩:=h;exact(Array.getElem?_eq_some_iff.1 h1).1
 | pack t n N=>obtain⟨arr,fz,h1,h2⟩:=h;exact(Array.getElem?_eq_some_iff.1 h1).1
 | ints t v=>obtain⟨arr,fz,h1,h2⟩:=h;exact(Array.getElem?_eq_some_iff.1 h1).1
 | view c=>obtain⟨arr,t,fz,h1,h2⟩:=h;exact(Array.getElem?_eq_some_iff.1 h1).1
structure Alike(w w':World):Prop where
 heap:w'.heap=w.heap
 tape:w'.tape=w.tape
 os:w'.os=w.os
 output:w'.output=w.output
theorem Rel.alike{P:Program}{a:Inj}{H:Heap}{w w':World}(h:Rel P a H w)(e:Alike w w'):Rel P a H w' where
 blk:=fun id b x h1 h2=>(h.blk id b x h1 h2).heap (by rw[e.heap])
 base:=h.base
 inj:=h.inj
 bnd:=h.bnd
 live:=h.live
theorem Ext.alike{a:Inj}{H:Heap}{w w':World}(hb:∀id x,a id=some x->id<H.next)(e:Alike w w'):Ext a H w a H w' where
 old:=fun _ _=>rfl
 next:=Nat.le_refl _
 apart:=fun _ _ _=>rfl
 gone:=fun _ b _ h=>⟨b,h⟩
 ro:=fun _ _=>rfl
 new:=fun id x h e=>absurd (hb _ _ e) (by omega)
 frame:=fun _ _ _=>by rw[e.heap]
 size:=by rw[e.heap];exact Nat.le_refl _
 tape:=e.tape
 os:=e.os
 output:=e.output
theorem zH.Z4{P:Program}{a:Inj}{b:zo}{x:Nat×Nat×Nat}{w w':World}(h:zH P a b x w)(e:∀c,c<w.heap.size->w'.heap[c]?=w.heap[c]?):zH P a b x w':=h.heap (e _ h.lt)
structure JS(c:Nat)(w w':World):Prop where
 other:∀k,k≠c->w'.heap[k]?=w.heap[k]?
 size:w'.heap.size=w.heap.size
 tape:w'.tape=w.tape
 os:w'.os=w.os
 output:w'.output=w.output
theorem JS.refl(c:Nat)(w:World):JS c w w:=⟨fun _ _=>rfl,rfl,rfl,rfl,rfl⟩
theorem JS.trans{c:Nat}{a b d:World}(h:JS c a b)(k:JS c b d):JS c a d:=
 ⟨fun i hi=>(k.other i hi).trans (h.other i hi),k.size.trans h.size,k.tape.trans h.tape,k.os.trans h.os,k.output.trans h.output⟩
theorem Rel.zpd{P:Program}{a:Inj}{H:Heap}{w w':World}(hR:Rel P a H w){id:Nat}{b b':zo}{x:Nat×Nat×Nat}
  (h60:100<=id) (hb:H.blk.get id=some b) (hx:a id=some x) (ht:JS x.1 w w') (hr:zH P a b' x w') :
  Rel P a ⟨H.blk.set id b',H.next⟩ w'/\Ext a H w a ⟨H.blk.set id b',H.next⟩ w':=by
 refine⟨⟨hR.base,?_,?_,hR.bnd,?_⟩,⟨fun _ _=>rfl,Nat.le_refl _,?_,?_,?_,fun i y hi e=>absurd (hR.bnd _ _ e) (by omega),?_,by rw[ht.size];exact Nat.le_refl _,ht.tape,ht.os,ht.output⟩⟩
 .intro i c y h1 h2;rw[Tr.zK]at h1;by_cases hi:id=i
  .subst hi;rw[if_pos rfl]at h1;cases h1;rw[hx]at h2;cases h2;exact hr
  .rw[if_neg hi]at h1;refine(hR.blk i c y h1 h2).heap (ht.other _ fun e=>hi ?_);exact hR.Ze (.inl h60) hb hx h1 h2 e.symm
 .intro i j c d y z h1 h2 h3 l e
  have aux:∀i c,(H.blk.set id b').get i=some c->∃k,H.blk.get i=some k:=by
   intro i c h;rw[Tr.zK]at h;by_cases hi:id=i
   .exact⟨b,by rw[<- hi];exact hb⟩
   .rw[if_neg hi]at h;exact⟨c,h⟩
  obtain⟨k,g⟩:=aux _ _ h1;obtain⟨m,f⟩:=aux _ _ h3;exact hR.inj _ _ _ _ _ _ g h2 f l e
 .intro i c h;show i<H.next;have h:(H.blk.set id b').get i=some c:=h;rw[Tr.zK]at h;by_cases hi:id=i
  .subst hi;exact hR.live _ _ hb
  .rw[if_neg hi]at h;exact hR.live _ _ h
 .intro i _ e;show(H.blk.set id b').get i=_;rw[Tr.zK,if_neg];intro hi;subst hi;rw[hx]at e;cases e
 .intro i c _ h;have h:(H.blk.set id b').get i=some c:=h;rw[Tr.zK]at h;by_cases hi:id=i
  .exact⟨b,by rw[<- hi];exact hb⟩
  .rw[if_neg hi]at h;exact⟨c,h⟩
 .intro i hi;show(H.blk.set id b').get i=_;rw[Tr.zK,if_neg (by omega)]
 .intro c _ hc;exact ht.other c fun e=>hc ⟨id,b,x,h60,hb,hx,e.symm⟩
def Inj.put(β:Inj)(id:Nat)(x:Nat×Nat×Nat):Inj:=fun i=>if i=id then some x else β i
theorem Inj.kX{a:Inj}{id:Nat}{x:Nat×Nat×Nat}(h:a id=none):a.le (a.put id x):=by
 intro i y e;unfold Inj.put;by_cases hi:i=id
 .subst hi;rw[h]at e;cases e
 .rw[if_neg hi];exact e
theorem Inj.zL(a:Inj)(id:Nat)(x:Nat×Nat×Nat):a.put id x id=some x:=by simp[Inj.put]
theorem Inj.qg(a:Inj){id i:Nat}(x:Nat×Nat×Nat)(h:i≠id):a.put id x i=a i:=by simp[Inj.put,h]
theorem Rel.fresh{P:Program}{a:Inj}{H:Heap}{w:World}(hR:Rel P a H w){m:Nat}(h:H.next<=m):a m=none:=by
 cases e:a m with
 | none=>rfl
 | some x=>exact absurd (hR.bnd _ _ e) (by omega)
def push(w:World)(o:Obj):World:={ w with heap:=w.heap.push o }
theorem Wa(w:World)(o:Obj){k:Nat}(h:k<w.heap.size):(push w o).heap[k]?=w.heap[k]?:=by
 show(w.heap.push o)[k]?=_;rw[getElem?_push,if_neg (by omega)]
theorem yo(w:World)(o:Obj):(push w o).heap[w.heap.size]?=some o:=by
 show(w.heap.push o)[w.heap.size]?=_;rw[getElem?_push,if_pos rfl]
theorem Rel.add{P:Program}{a:Inj}{H:Heap}{w:World}(hR:Rel P a H w)(b':zo)(o:Obj)(e:Nat)
  (hr:zH P (a.put H.next (w.heap.size,0,e)) b' (w.heap.size,0,e) (push w o)) :
  Rel P (a.put H.next (w.heap.size,0,e)) ⟨H.blk.set H.next b',H.next+1⟩ (push w o) /\
  Ext a H w (a.put H.next (w.heap.size,0,e)) ⟨H.blk.set H.next b',H.next+1⟩ (push w o):=by
 have m:=hR.fresh (Nat.le_refl H.next);have hle:=Inj.kX (x:=(w.heap.size,0,e)) m
 have old:∀i y,i≠H.next->a.put H.next (w.heap.size,0,e) i=some y->a i=some y:=fun i y hi h=>by
  rw[Inj.qg _ _ hi]at h;exact h
 refine⟨⟨le_succ_of_le hR.base,?_,?_,?_,?_⟩,⟨?_,le_succ _,?_,?_,?_,?_,?_,by simp[push],rfl,rfl,rfl⟩⟩
 .intro i c y h1 h2;have h1:(H.blk.set H.next b').get i=some c:=h1;rw[Tr.zK]at h1;by_cases hi:H.next=i
  .subst hi;rw[if_pos rfl]at h1;cases h1;rw[Inj.zL]at h2;cases h2;exact hr
  .rw[if_neg hi]at h1;have k:=old i y (fun e=>hi e.symm) h2;have:=hR.blk i c y h1 k;exact(this.mono hle).heap (Wa w o this.lt)
 .intro i j c d y z h1 h2 h3 g l;have h1:(H.blk.set H.next b').get i=some c:=h1;have h3:(H.blk.set H.next b').get j=some d:=h3;rw[Tr.zK]at h1 h3;by_cases hi:H.next=i
  .by_cases b:H.next=j
   .omega
   .rw[if_neg b]at h3;have:=(hR.blk j d z h3 (old j z (fun e=>b e.symm) g)).lt;subst hi;rw[Inj.zL]at h2;cases h2;simp at l;omega
  .rw[if_neg hi]at h1;by_cases b:H.next=j
   .have:=(hR.blk i c y h1 (old i y (fun e=>hi e.symm) h2)).lt;subst b;rw[Inj.zL]at g;cases g;simp at l;omega
   .rw[if_neg b]at h3;exact hR.inj _ _ _ _ _ _ h1 (old i y (fun e=>hi e.symm) h2) h3 (old j z (fun e=>b e.symm) g) l
 .intro i y h;show i<H.next+1;by_cases hi:i=H.next
  .omega
  .have:=hR.bnd _ _ (old i y hi h);omega
 .intro i c h;show i<H.next+1;have h:(H.blk.set H.next b').get i=some c:=h;rw[Tr.zK]at h;by_cases hi:H.next=i
  .omega
  .rw[if_neg hi]at h;have:=hR.live _ _ h;omega
 .intro i hi;exact Inj.qg _ _ (by omega)
 .intro i hi _;show(H.blk.set H.next b').get i=_;rw[Tr.zK,if_neg (by omega)]
 .intro i c hi h;have h:(H.blk.set H.next b').get i=some c:=h;rw[Tr.zK,if_neg (by omega)]at h;exact⟨c,h⟩
 .intro i hi;have:=hR.base;show(H.blk.set H.next b').get i=_;rw[Tr.zK,if_neg (by omega)]
 .intro i y hi h;by_cases f:i=H.next
  .subst f;rw[Inj.zL]at h;cases h;exact .inl (Nat.le_refl _)
  .exact absurd (hR.bnd _ _ (old i y f h)) (by omega)
 .intro c hc _;exact Wa w o hc
theorem Rel.del{P:Program}{a:Inj}{H:Heap}{w:World}(hR:Rel P a H w){id:Nat}(h60:100<=id){x:Nat×Nat×Nat}(hx:a id=some x) :
  Rel P a ⟨H.blk.del id,H.next⟩ w/\Ext a H w a ⟨H.blk.del id,H.next⟩ w:=by
 have aux:∀i c,(H.blk.del id).get i=some c->H.blk.get i=some c:=by
  intro i c h;rw[Tr.jc]at h;by_cases hi:id=i
  .rw[if_pos hi]at h;cases h
  .rw[if_neg hi]at h;exact h
 refine⟨⟨hR.base,fun i c y h1 h2=>hR.blk i c y (aux _ _ h1) h2,fun i j c d y z h1 h2 h3 b e=>hR.inj _ _ _ _ _ _ (aux _ _ h1) h2 (aux _ _ h3) b e,hR.bnd,fun i c h=>hR.live _ _ (aux _ _ h)⟩,
  ⟨fun _ _=>rfl,Nat.le_refl _,?_,fun i c _ h=>⟨c,aux _ _ h⟩,fun i hi=>(by show(H.blk.del id).get i=_;rw[Tr.jc,if_neg (by omega)]),fun i y hi e=>absurd (hR.bnd _ _ e) (by omega),fun _ _ _=>rfl,Nat.le_refl _,rfl,rfl,rfl⟩⟩
 intro i _ e;show(H.blk.del id).get i=_;rw[Tr.jc,if_neg];intro hi;subst hi;rw[hx]at e;cases e
theorem Rel.rename{P:Program}{f:Inj}{H:Heap}{w w':World}(hR:Rel P f H w){id:Nat}{b b':zo}{x y:Nat×Nat×Nat}
  (h60:100<=id) (hb:H.blk.get id=some b) (hx:f id=some x) (hy:y.1=x.1) (ht:JS x.1 w w') (hr:zH P (f.put H.next y) b' y w') :
  Rel P (f.put H.next y) ⟨(H.blk.del id).set H.next b',H.next+1⟩ w'/\Ext f H w (f.put H.next y) ⟨(H.blk.del id).set H.next b',H.next+1⟩ w':=by
 have n:=hR.fresh (Nat.le_refl H.next);have hid:=hR.live _ _ hb;have hle:=Inj.kX (x:=y) n
 have old:∀i z,i≠H.next->f.put H.next y i=some z->f i=some z:=fun i z hi h=>by
  rw[Inj.qg _ _ hi]at h;exact h
 have aux:∀i c,((H.blk.del id).set H.next b').get i=some c->i≠H.next->i≠id/\H.blk.get i=some c:=by
  intro i c h hi;rw[Tr.zK,if_neg (fun e=>hi e.symm),Tr.jc]at h;by_cases a:id=i
  .rw[if_pos a]at h;cases h
  .rw[if_neg a]at h;exact⟨fun e=>a e.symm,h⟩
 have self:∀c,((H.blk.del id).set H.next b').get H.next=some c->c=b':=by
  intro c h;rw[Tr.zK,if_pos rfl]at h;cases h;rfl
 refine⟨⟨le_succ_of_le hR.base,?_,?_,?_,?_⟩,⟨?_,le_succ _,?_,?_,?_,?_,?_,by rw[ht.size];exact Nat.le_refl _,ht.tape,ht.os,ht.output⟩⟩
 .intro i c z h1 h2;by_cases hi:i=H.next
  .subst hi;cases self _ h1;rw[Inj.zL]at h2;cases h2;exact hr
  .obtain⟨h3,g⟩:=aux i c h1 hi;have l:=old i z hi h2;have:=hR.blk i c z g l;refine(this.mono hle).heap (ht.other _ fun e=>h3 ?_);exact hR.Ze (.inr h60) g l hb hx e
 .intro i j c d z u h1 h2 h3 g e;by_cases hi:i=H.next
  .by_cases k:j=H.next
   .omega
   .obtain⟨l,m⟩:=aux j d h3 k;subst hi;rw[Inj.zL]at h2;cases h2;exact absurd (hR.Ze (.inr h60) m (old j u k g) hb hx (by rw[<- e,hy])) l
  .obtain⟨l,m⟩:=aux i c h1 hi;by_cases k:j=H.next
   .subst k;rw[Inj.zL]at g;cases g;exact absurd (hR.Ze (.inr h60) m (old i z hi h2) hb hx (by rw[e,hy])) l
   .obtain⟨p,o⟩:=aux j d h3 k;exact hR.inj _ _ _ _ _ _ m (old i z hi h2) o (old j u k g) e
 .intro i z h;show i<H.next+1;by_cases hi:i=H.next
  .omega
  .have:=hR.bnd _ _ (old i z hi h);omega
 .intro i c h;show i<H.next+1;by_cases hi:i=H.next
  .omega
  .have:=hR.live _ _ (aux i c h hi).2;omega
 .intro i hi;exact Inj.qg _ _ (by omega)
 .intro i hi e;show((H.blk.del id).set H.next b').get i=_;rw[Tr.zK,if_neg (by omega),Tr.jc,if_neg];intro a;subst a;rw[hx]at e;cases e
 .intro i c hi h;exact⟨c,(aux i c h (by omega)).2⟩
 .intro i hi;have:=hR.base;show((H.blk.del id).set H.next b').get i=_;rw[Tr.zK,if_neg (by omega),Tr.jc,if_neg (by omega)]
 .intro i z hi h;by_cases a:i=H.next
  .subst a;rw[Inj.zL]at h;cases h;exact .inr ⟨id,b,x,h60,hb,hx,hy.symm⟩
  .exact absurd (hR.bnd _ _ (old i z a h)) (by omega)
 .intro c _ hc;exact ht.other c fun e=>hc ⟨id,b,x,h60,hb,hx,e.symm⟩
end
section
variable[Unk]
structure yg(E:Env):Prop where
 types:∀t,E.types.get t=E.P.types[t]?
 funcs:∀f,E.funcs.get f=E.P.funcs[f]?
theorem zqD(P:Program)(s:List (FuncId×Spec))(b:List Fact)(a:List (Nat×zo)):yg (Zb P s b a) where
 types:=fun t=>by show(Tr.ofList P.types.toList).get t=_;rw[Tr.qc];simp[Zb]
 funcs:=fun t=>by show(Tr.ofList P.funcs.toList).get t=_;rw[Tr.qc];simp[Zb]
theorem kP:∀(l:List (Nat×zo)) (id:Nat) (b:zo),(jq l).get id=some b->(id,b)∈l:=by
 intro l
 induction l with
 | nil=>intro id b h;rw[show jq [] = .nil from rfl,Tr.get_nil]at h;cases h
 | cons p l a=>
  intro id b h;rw[show jq (p::l)=(jq l).set p.1 p.2 from rfl,Tr.zK]at h;by_cases hi:p.1=id
  .rw[if_pos hi]at h;cases h;subst hi;exact mem_cons_self
  .rw[if_neg hi]at h;exact mem_cons_of_mem _ (a id b h)
theorem zjF:∀(l:List (Nat×zo)) (p:Nat×zo),p∈l->∃b,(jq l).get p.1=some b:=by
 intro l
 induction l with
 | nil=>intro p h;cases h
 | cons q l a=>
  intro p h;rw[show jq (q::l)=(jq l).set q.1 q.2 from rfl,Tr.zK];by_cases hi:q.1=p.1
  .exact⟨_,by rw[if_pos hi]⟩
  .rw[if_neg hi];rcases List.mem_cons.1 h with rfl|h
   .exact absurd rfl hi
   .exact a p h
structure Grown(w w':World):Prop where
 old:∀c,c<w.heap.size->w'.heap[c]?=w.heap[c]?
 size:w.heap.size<=w'.heap.size
 tape:w'.tape=w.tape
 os:w'.os=w.os
 output:w'.output=w.output
theorem Rel.KI{P:Program}{a:Inj}{H:Heap}{w w':World}(h:Rel P a H w)(e:Grown w w'):Rel P a H w' where
 blk:=fun id b x h1 h2=>(h.blk id b x h1 h2).Z4 e.old
 base:=h.base
 inj:=h.inj
 bnd:=h.bnd
 live:=h.live
theorem Ext.KI{a:Inj}{H:Heap}{w w':World}(hb:∀id x,a id=some x->id<H.next)(e:Grown w w'):Ext a H w a H w' where
 old:=fun _ _=>rfl
 next:=Nat.le_refl _
 apart:=fun _ _ _=>rfl
 gone:=fun _ b _ h=>⟨b,h⟩
 ro:=fun _ _=>rfl
 new:=fun id x h e=>absurd (hb _ _ e) (by omega)
 frame:=fun c hc _=>e.old c hc
 size:=e.size
 tape:=e.tape
 os:=e.os
 output:=e.output
def zwH(x:Value):Bool:=match x with|.nilIface=>false|.agg _=>false|_=>true
def zZ(P:Program)(tabs:List (Nat×zo))(w:World):Prop:=∃β:Inj,(∀g,g<100->β g=some (Unk.place g))/\∀p∈tabs,zH P β p.2 (Unk.place p.1) w
structure Made(P:Program)(β:Inj)(N n:Nat)(rows:List (Nat×zo))(γ:Inj)(w w2:World):Prop where
 low:∀id,id<N->∀x,γ id=some x->β id=some x
 high:∀id,N+n<=id->γ id=none
 new:∀id x,N<=id->γ id=some x->w.heap.size<=x.1
 blk:∀p∈rows,∀x,γ p.1=some x->zH P γ p.2 x w2
 inj:∀p∈rows,∀q∈rows,∀x y,γ p.1=some x->γ q.1=some y->x.1=y.1->p.1=q.1
def zsE(β:Inj)(w:World)(p:zb)(x:Value):Prop:=
 match QQ p with
 | none=>WF β p/\x=zc β p
 | some q=>WF β q.2/\∃s b o cap,zc β q.2 = .string s/\x = .slice (some ⟨b,o,none⟩) s.size cap/\s.size<=cap/\∀i (c:UInt8),s.data[i]?=some c->w.cell? ⟨b,o+i,none⟩=some (.int .u8 c.toNat)
def zlH(β:Inj)(w:World):List zb->List Value->Prop
 | [],[]=>True
 | p::l,x::m=>zsE β w p x/\zlH β w l m
 | _,_=>False
def zsw(P:Program)(b:zo):Prop:=∀(β β':Inj) (x:Nat×Nat×Nat) (w:World),(∀g,g<100->β g=some (Unk.place g))->(∀g,g<100->β' g=some (Unk.place g))->zH P β b x w->zH P β' b x w
def Zj(P:Program)(tabs:List (Nat×zo))(β:Inj)(f:FuncId)(args:List zb)(nx:Nat)(rin rout:List (Nat×zo))(r:zb)(n:Nat):Prop:=
 ∀β' H w,β.le β'->Rel P β' H w->(∀g,g<100->β' g=some (Unk.place g))->(∀p∈tabs,p.1<100/\H.blk.get p.1=some p.2)->H.next=nx->(∀p∈rin,H.blk.get p.1=some p.2)->WFs β' args ->
  Calls P f (zf β' args).toArray w fun e w2=>∃γ,e = .returned (zc γ r)/\WF γ r/\Rel P γ (yq H rin rout n) w2/\Ext β' H w γ (yq H rin rout n) w2
def Z2(P:Program)(tabs:List (Nat×zo))(β:Inj)(f:FuncId)(args:List zb)(r:zb):Prop:=
 WFs β args/\WF β r/\∀w,zZ P tabs w->Calls P f (zf β args).toArray w fun e w2=>e = .returned (zc β r)/\Grown w w2
def Z0(P:Program)(tabs:List (Nat×zo))(β:Inj)(f:FuncId)(args:List zb)(N n:Nat)(rows:List (Nat×zo))(r:zb):Prop:=
 WFs β args/\(∀p∈rows,N<=p.1/\p.1<N+n/\(ya p.2).isNone=true)/\∀w,zZ P tabs w->Calls P f (zf β args).toArray w fun e w2=>Grown w w2/\∃γ,e = .returned (zc γ r)/\WF γ r/\Made P β N n rows γ w w2
theorem Z2.mono{P:Program}{tabs:List (Nat×zo)}{β β':Inj}(l:β.le β'){f:FuncId}{as:List zb}{r:zb}(h:Z2 P tabs β f as r):Z2 P tabs β' f as r:=by
 obtain⟨h1,h2,h3⟩:=h;obtain⟨d,c⟩:=WFs.mono l _ h1;obtain⟨b,a⟩:=WF.mono l _ h2;exact⟨d,b,by rw[c,a];exact h3⟩
theorem Z0.mono{P:Program}{tabs:List (Nat×zo)}{β β':Inj}(l:β.le β'){f:FuncId}{as:List zb}{N n:Nat}{rows:List (Nat×zo)}{r:zb}(h:Z0 P tabs β f as N n rows r):Z0 P tabs β' f as N n rows r:=by
 obtain⟨h1,h2,h3⟩:=h;obtain⟨d,c⟩:=WFs.mono l _ h1;refine⟨d,h2,fun w hw=>?_⟩;rw[c]
 exact(h3 w hw).mono fun e w2 hx=>by
  obtain⟨g,γ,b,a,m⟩:=hx;exact⟨g,γ,b,a,⟨fun id hid x hx=>l _ _ (m.low id hid x hx),m.high,m.new,m.blk,m.inj⟩⟩
def Z3(P:Program)(β:Inj)(op:BinOp)(a b r:zb):Prop:=WF β a/\WF β b/\WF β r/\zwH (zc β a)=true/\∀t w,(Go.binOp op t (zc β a) (zc β b)).run P w = .ok (zc β r) w
def zaz(P:Program)(β:Inj)(op:UnOp)(a r:zb):Prop:=WF β a/\WF β r/\∀w,(Op.unary op (zc β a)).run P w = .ok (zc β r) w
theorem Z3.mono{P:Program}{β β':Inj}(l:β.le β'){op:BinOp}{a b r:zb}(h:Z3 P β op a b r):Z3 P β' op a b r:=by
 obtain⟨h1,h2,h3,g,f⟩:=h;obtain⟨k,c⟩:=WF.mono l _ h1;obtain⟨j,i⟩:=WF.mono l _ h2;obtain⟨e,d⟩:=WF.mono l _ h3;exact⟨k,j,e,by rw[c];exact g,by rw[c,i,d];exact f⟩
theorem zaz.mono{P:Program}{β β':Inj}(l:β.le β'){op:UnOp}{a r:zb}(h:zaz P β op a r):zaz P β' op a r:=by
 obtain⟨h1,h2,h3⟩:=h;obtain⟨e,d⟩:=WF.mono l _ h1;obtain⟨c,b⟩:=WF.mono l _ h2;exact⟨e,c,by rw[d,b];exact h3⟩
def zq(P:Program)(tabs:List (Nat×zo))(β:Inj):Fact->Prop
 | .bin op a b r=>Z3 P β op a b r
 | .eq sh a b r=>WF β a/\WF β b/\((sh=1/\∃k m n,zc β a = .int k m/\zc β b = .int k n/\r=(m==n))\/(sh=2/\∃s t,zc β a = .string s/\zc β b = .string t/\r=decide (s=t))\/(sh=3/\∃s t:Bool,zc β a = .bool s/\zc β b = .bool t/\r=(s==t)))
 | .conv k a r=>WF β a/\WF β r/\∃j n,zc β a = .int j n/\zc β r = .int k (k.wrap n)
 | .len a r=>WF β a/\WF β r/\∃s,zc β a = .string s/\zc β r = .int .i64 (s.size:Nat)
 | .min a b r=>WF β a/\WF β b/\WF β r/\∃k m n,zc β a = .int k m/\zc β b = .int k n/\zc β r = .int k (if n<m then n else m)
 | .max a b r=>WF β a/\WF β b/\WF β r/\∃k m n,zc β a = .int k m/\zc β b = .int k n/\zc β r = .int k (if m<n then n else m)
 | .sub a lo hi r=>WF β a/\WF β lo/\WF β hi/\WF β r/\∃s j l k h,zc β a = .string s/\zc β lo = .int j (Int.ofNat l)/\zc β hi = .int k (Int.ofNat h)/\l<=h/\h<=s.size/\zc β r = .string (s.extract l h)
 | .call f args r=>Z2 P tabs β f args r
 | .make f args N n rows r=>Z0 P tabs β f args N n rows r
 | .callF g=>∀f args r,g f args=some r->Z2 P tabs β f args r
 | .makeF g=>∀f args x,g f args=some x->Z0 P tabs β f args x.1 x.2.1 x.2.2.1 x.2.2.2
 | .binF g=>∀op a b r,g op a b=some r->Z3 P β op a b r
 | .unF g=>∀op a r,g op a=some r->zaz P β op a r
 | .at_ a i r=>WF β a/\WF β r/\∃s b,zc β a = .string s/\s.data[i]?=some b/\zc β r = .int .u8 b.toNat
 | .pack l r=>WFs β l/\WF β r/\∃s,zc β r = .string s/\zf β l=s.data.toList.map fun b=>Value.int .u8 b.toNat
 | .read f args r=>WF β r/\∀w vs β',β.le β'->zZ P tabs w->zlH β' w args vs->Calls P f vs.toArray w fun e w2=>e = .returned (zc β r)/\Grown w w2
 | .memo f args nx rin rout r n=>Zj P tabs β f args nx rin rout r n
 | .num q lo hi=>WF β (.sym q)/\∃n:Nat,zc β (.sym q) = .int .i64 (n:Int)/\lo<=n/\n<=hi
 | .diff q m r=>WF β (.sym q)/\WF β (.sym r)/\∃n:Nat,zc β (.sym q) = .int .i64 (n:Int)/\m<=n/\zc β (.sym r) = .int .i64 ((n-m:Nat):Int)
 | .slen a r=>WF β a/\WF β r/\∃p n c,zc β a = .slice p n c/\zc β r = .int .i64 (n:Nat)
 | .ssub a h r=>WF β a/\WF β h/\WF β r/\∃p n c j k,zc β a = .slice p n c/\zc β h = .int j (Int.ofNat k)/\k<=c/\zc β r = .slice p k c
 | .memoG f N _ args nx rin rout r n=>∃β0:Inj,β0.le β/\(∀id,N<=id->β0 id=none)/\Zj P tabs β0 f args nx rin rout r n/\(∀t,∀p∈rin,(qb rin t).get p.1=some p.2) /\
  (∀p∈rout,N<=p.1/\(ya p.2).isNone=true)/\(∀t,∀p∈rout,(qb rout t).get p.1=some p.2)/\∀p∈tabs,zsw P p.2/\(jq tabs).get p.1=some p.2
theorem zq.mono{P:Program}{tabs:List (Nat×zo)}{β β':Inj}(l:β.le β'){f:Fact}(h:zq P tabs β f):zq P tabs β' f:=by
 cases f with
 | bin op a b r=>
  obtain⟨h1,h2,h3,o,v⟩:=h;obtain⟨d,c⟩:=WF.mono l _ h1;obtain⟨j,e⟩:=WF.mono l _ h2;obtain⟨t,p⟩:=WF.mono l _ h3
  exact⟨d,j,t,by rw[c];exact o,by rw[c,e,p];exact v⟩
 | eq sh a b r=>
  obtain⟨h1,h2,h3⟩:=h;obtain⟨d,c⟩:=WF.mono l _ h1;obtain⟨j,e⟩:=WF.mono l _ h2
  exact⟨d,j,by rw[c,e];exact h3⟩
 | conv k a r=>
  obtain⟨h1,h2,h3⟩:=h;obtain⟨d,c⟩:=WF.mono l _ h1;obtain⟨j,e⟩:=WF.mono l _ h2
  exact⟨d,j,by rw[c,e];exact h3⟩
 | len a r=>
  obtain⟨h1,h2,h3⟩:=h;obtain⟨d,c⟩:=WF.mono l _ h1;obtain⟨j,e⟩:=WF.mono l _ h2
  exact⟨d,j,by rw[c,e];exact h3⟩
 | min a b r=>
  obtain⟨h1,h2,h3,o⟩:=h;obtain⟨d,c⟩:=WF.mono l _ h1;obtain⟨j,e⟩:=WF.mono l _ h2;obtain⟨t,p⟩:=WF.mono l _ h3
  exact⟨d,j,t,by rw[c,e,p];exact o⟩
 | max a b r=>
  obtain⟨h1,h2,h3,o⟩:=h;obtain⟨d,c⟩:=WF.mono l _ h1;obtain⟨j,e⟩:=WF.mono l _ h2;obtain⟨t,p⟩:=WF.mono l _ h3
  exact⟨d,j,t,by rw[c,e,p];exact o⟩
 | sub a lo hi r=>
  obtain⟨h1,h2,h3,o,v⟩:=h;obtain⟨d,c⟩:=WF.mono l _ h1;obtain⟨j,e⟩:=WF.mono l _ h2;obtain⟨c1,z⟩:=WF.mono l _ h3;obtain⟨t,p⟩:=WF.mono l _ o
  exact⟨d,j,c1,t,by rw[c,e,z,p];exact v⟩
 | call f as r=>exact Z2.mono l h
 | callF g=>exact fun f args r u=>(h f args r u).mono l
 | binF g=>exact fun op a b r u=>(h op a b r u).mono l
 | unF g=>exact fun op a r u=>(h op a r u).mono l
 | makeF g=>exact fun f args x u=>(h f args x u).mono l
 | at_ a i r=>
  obtain⟨h1,h2,h3⟩:=h;obtain⟨d,c⟩:=WF.mono l _ h1;obtain⟨j,e⟩:=WF.mono l _ h2
  exact⟨d,j,by rw[c,e];exact h3⟩
 | pack as r=>
  obtain⟨h1,h2,h3⟩:=h;obtain⟨d,c⟩:=WFs.mono l _ h1;obtain⟨j,e⟩:=WF.mono l _ h2
  exact⟨d,j,by rw[c,e];exact h3⟩
 | read f as r=>
  obtain⟨h1,h2⟩:=h;obtain⟨d,c⟩:=WF.mono l _ h1;refine⟨d,fun w vs β2 l2=>?_⟩;rw[c]
  exact h2 w vs β2 (fun id x hx=>l2 id x (l id x hx))
 | num q lo hi=>
  obtain⟨h1,n,h2,h3⟩:=h;obtain⟨d,c⟩:=WF.mono l _ h1
  exact⟨d,n,by rw[c];exact h2,h3⟩
 | diff q m r=>
  obtain⟨h1,h2,n,h3,o,v⟩:=h;obtain⟨d,c⟩:=WF.mono l _ h1;obtain⟨j,e⟩:=WF.mono l _ h2
  exact⟨d,j,n,by rw[c];exact h3,o,by rw[e];exact v⟩
 | slen a r=>
  obtain⟨h1,h2,h3⟩:=h;obtain⟨d,c⟩:=WF.mono l _ h1;obtain⟨j,e⟩:=WF.mono l _ h2
  exact⟨d,j,by rw[c,e];exact h3⟩
 | ssub a h' r=>
  obtain⟨h1,h2,h3,o⟩:=h;obtain⟨d,c⟩:=WF.mono l _ h1;obtain⟨j,e⟩:=WF.mono l _ h2;obtain⟨t,p⟩:=WF.mono l _ h3
  exact⟨d,j,t,by rw[c,e,p];exact o⟩
 | memoG f N y args nx rin rout r n=>
  obtain⟨β0,h1,h2⟩:=h
  exact⟨β0,fun id x hx=>l id x (h1 id x hx),h2⟩
 | memo f as nx rin rout r n=>exact fun β2 H w h2=>h β2 H w (fun id x hx=>h2 id x (l id x hx))
 | make f as N n rows r=>exact Z0.mono l h
def zC(E:Env)(β:Inj):Prop:=∀f∈E.facts,zq E.P E.tabs β f
theorem zC.mono{E:Env}{β β':Inj}(l:β.le β')(h:zC E β):zC E β':=fun f a=>(h f a).mono l
theorem qu{a:Type}{p:Fact->Option a}:∀ {l:List Fact}{r:a},findF p l=some r->∃f∈l,p f=some r:=by
 intro l
 induction l with
 | nil=>intro r h;cases h
 | cons f l b=>
  intro r h;have h:zh (p f) (findF p l) some=some r:=h
  cases hp:p f with
  | none=>
   rw[hp]at h;obtain⟨g,c,e⟩:=b h
   exact⟨g,mem_cons_of_mem _ c,e⟩
  | some q=>
   rw[hp]at h;exact⟨f,mem_cons_self,by rw[hp];exact h⟩
theorem WN{P:Program}{tabs:List (Nat×zo)}{d:Inj}{op:BinOp}{a b r:zb}{f:Fact}(h:zcS op a b f=some r)(c:zq P tabs d f):Z3 P d op a b r:=by
 cases f<;>simp only[zcS]at h<;>first|(cases h;done)|skip
 case bin o x y q=>
  obtain⟨h1,h⟩:=zg h;simp only[zk,Bool.and_eq_true,zu,beq_iff_eq]at h1;obtain⟨j,i,e⟩:=h1;cases h;have c:Z3 P d o x y r:=c;rw[zM _ _ i,zM _ _ e];have:op=o:=by cases op<;>cases o<;>first|rfl|(cases j;done)
  rw[this];exact c
 case binF g=>exact c op a b r h
theorem zqL{P:Program}{tabs:List (Nat×zo)}{b:Inj}{op:UnOp}{a r:zb}{f:Fact}(h:mUn op a f=some r)(c:zq P tabs b f):zaz P b op a r:=by
 cases f<;>simp only[mUn]at h<;>first|(cases h;done)|skip
 case unF g=>exact c op a r h
theorem zkA{sh:Nat}{a b:zb}{r:Bool}{f:Fact}(h:mEq sh a b f=some r):f = .eq sh a b r:=by
 cases f<;>simp only[mEq]at h<;>first|(cases h;done)|skip
 obtain⟨h1,h⟩:=zg h;simp only[zk,Bool.and_eq_true,zu,beq_iff_eq]at h1;obtain⟨e,d,c⟩:=h1;cases h;rw[zM _ _ d,zM _ _ c,e]
theorem zqX{k:IntKind}{a r:zb}{f:Fact}(h:zqY k a f=some r):f = .conv k a r:=by
 cases f<;>simp only[zqY]at h<;>first|(cases h;done)|skip
 obtain⟨h1,h⟩:=zg h;simp only[zk,Bool.and_eq_true]at h1;obtain⟨c,b⟩:=h1;cases h;rw[zM _ _ b,(Xk _ _).1 c]
theorem WM{a r:zb}{f:Fact}(h:zd8 a f=some r):f = .len a r:=by
 cases f<;>simp only[zd8]at h<;>first|(cases h;done)|skip
 obtain⟨h1,h⟩:=zg h;cases h;rw[zM _ _ h1]
theorem zqP{a r:zb}{f:Fact}(h:zqQ a f=some r):f = .slen a r:=by
 cases f<;>simp only[zqQ]at h<;>first|(cases h;done)|skip
 obtain⟨h1,h⟩:=zg h;cases h;rw[zM _ _ h1]
theorem zqN{a b r:zb}{f:Fact}(h:zqO a b f=some r):f = .ssub a b r:=by
 cases f<;>simp only[zqO]at h<;>first|(cases h;done)|skip
 obtain⟨h1,h⟩:=zg h;simp only[zk,Bool.and_eq_true]at h1;obtain⟨d,c⟩:=h1;cases h;rw[zM _ _ d,zM _ _ c]
theorem ztw{a b r:zb}{f:Fact}(h:zwT a b f=some r):f = .min a b r:=by
 cases f<;>simp only[zwT]at h<;>first|(cases h;done)|skip
 obtain⟨h1,h⟩:=zg h;simp only[zk,Bool.and_eq_true]at h1;obtain⟨d,c⟩:=h1;cases h;rw[zM _ _ d,zM _ _ c]
theorem ztx{a b r:zb}{f:Fact}(h:zwU a b f=some r):f = .max a b r:=by
 cases f<;>simp only[zwU]at h<;>first|(cases h;done)|skip
 obtain⟨h1,h⟩:=zg h;simp only[zk,Bool.and_eq_true]at h1;obtain⟨d,c⟩:=h1;cases h;rw[zM _ _ d,zM _ _ c]
theorem ztv{a l h' r:zb}{f:Fact}(h:zqM a l h' f=some r):f = .sub a l h' r:=by
 cases f<;>simp only[zqM]at h<;>first|(cases h;done)|skip
 obtain⟨h1,h⟩:=zg h;simp only[zk,Bool.and_eq_true]at h1;obtain⟨d,c,b⟩:=h1;cases h;rw[zM _ _ d,zM _ _ c,zM _ _ b]
theorem zwV{a r:zb}{i:Nat}{f:Fact}(h:mAt a i f=some r):f = .at_ a i r:=by
 cases f<;>simp only[mAt]at h<;>first|(cases h;done)|skip
 obtain⟨h1,h⟩:=zg h;simp only[zk,Bool.and_eq_true,zu,beq_iff_eq]at h1;obtain⟨c,b⟩:=h1;cases h;rw[zM _ _ c,b]
theorem zqS{l:List zb}{r:zb}{f:Fact}(h:zmn l f=some r):f = .pack l r:=by
 cases f<;>simp only[zmn]at h<;>first|(cases h;done)|skip
 obtain⟨h1,h⟩:=zg h;cases h;rw[jC _ _ h1]
theorem zqZ{P:Program}{tabs:List (Nat×zo)}{a:Inj}{g:FuncId}{as:List zb}{r:zb}{f:Fact}(h:zid g as f=some r)(b:zq P tabs a f):Z2 P tabs a g as r:=by
 cases f<;>simp only[zid]at h<;>first|(cases h;done)|exact b _ _ _ h|skip
 obtain⟨h1,h⟩:=zg h;simp only[zk,Bool.and_eq_true,zu,beq_iff_eq]at h1;obtain⟨d,c⟩:=h1;cases h;rw[jC _ _ c,d];exact b
theorem zqV{P:Program}{tabs:List (Nat×zo)}{a:Inj}{g:FuncId}{as:List zb}{r:Nat×Nat×List (Nat×zo)×zb}{f:Fact}(h:zib g as f=some r)(b:zq P tabs a f):Z0 P tabs a g as r.1 r.2.1 r.2.2.1 r.2.2.2:=by
 cases f<;>simp only[zib]at h<;>first|(cases h;done)|exact b _ _ _ h|skip
 obtain⟨h1,h⟩:=zg h;simp only[zk,Bool.and_eq_true,zu,beq_iff_eq]at h1;obtain⟨d,c⟩:=h1;cases h;rw[jC _ _ c,d];exact b
section
variable{E:Env}(hE:yg E)
include hE
theorem zbF{t:TypeId}{i:TypeInfo}(h:E.types.get t=some i):E.P.info? t=some i:=by
 rw[hE.types]at h
 have:t<E.P.types.size:=by
  rcases Nat.lt_or_ge t E.P.types.size with h'|h'
  .exact h'
  .rw[Array.getElem?_eq_none h']at h;cases h
 unfold Tables.info?;rw[if_pos this];exact h
theorem yf{t:TypeId}{d:TypeDesc}(h:E.desc t=some d):E.P.underlying t=some d:=by
 unfold Env.desc at h;obtain⟨i,hi,h⟩:=ze h;have h1:=zbF hE hi;unfold Program.underlying;rw[h1];unfold descOf at h;obtain⟨desc,o,m,l,k,g,f,e,c,b⟩:=i
 cases desc with
 | named n u=>
  obtain⟨j,a,h⟩:=ze h;cases h
  simp[zbF hE a]
 | _=>simpa using h
theorem zr{t:TypeId}{d:TypeDesc}(h:E.desc t=some d)(w:World):(underlying t).run E.P w = .ok d w:=by
 simp[underlying,yf hE h]
theorem Qy{t:TypeId}{n:Nat}(h:E.size t=some n):∃i,E.P.info? t=some i/\E.types.get t=some i/\i.size=n/\qX E.P t=n:=by
 unfold Env.size at h;obtain⟨i,hi,h⟩:=ze h;cases h;refine⟨i,zbF hE hi,hi,rfl,?_⟩;unfold qX;rw[<- hE.types,hi];rfl
theorem yl{t:TypeId}{i:TypeInfo}(h:E.types.get t=some i)(w:World):(typeInfo t).run E.P w = .ok i w:=by
 simp[typeInfo,zbF hE h]
theorem qx{t:TypeId}{n:Nat}(h:E.size t=some n)(w:World):(sizeOf t).run E.P w = .ok n w:=by
 obtain⟨i,h1,h2,h3,_⟩:=Qy hE h;simp[sizeOf,typeInfo,h1,h3]
theorem zez{t:TypeId}{g:Bool}(h:E.isAgg t=some g)(w:World):(isAgg t).run E.P w = .ok g w:=by
 unfold Env.isAgg at h;obtain⟨d,hd,h⟩:=ze h;cases h;unfold isAgg;rw[Sem.run_bind,zr hE hd];cases d<;>simp[zA7]
end
theorem zmQ{H:Heap}{b:Nat}{r:Row}(h:H.zuQ b=some r):H.blk.get b=some (.cells r.t r.n r.c):=by
 unfold Heap.zuQ at h;obtain⟨k,a,h⟩:=ze h;cases k<;>cases h;exact a
theorem QR{H:Heap}{b:Nat}{r:Row}(h:H.row b=some r):∃a,H.blk.get b=some a/\zsg a=some r:=by
 unfold Heap.row at h;obtain⟨k,c,h⟩:=ze h;exact⟨k,c,h⟩
theorem zat{a:zo}{r:Row}(h:zsg a=some r){P:Program}{b:Inj}{x:Nat×Nat×Nat}{w:World}:zH P b a x w↔zH P b (.cells r.t r.n r.c) x w:=by
 cases a<;>cases h<;>exact Iff.rfl
theorem Inj.jF(a:Inj)(b off j:Nat):(a.addr b off).add j=a.addr b (off+j):=by
 unfold Addr.add Inj.addr;by_cases h:j=0
 .simp[h]
 .simp[h,Nat.add_assoc]
theorem Vb{b:zo}{q:TypeId×zb}(h:zas b=some q):b = .text q.1 q.2:=by cases b<;>cases h;rfl
theorem Rel.zjE{P:Program}{a:Inj}{H:Heap}{w:World}(hR:Rel P a H w){b:Nat}{t:TypeId}{v:zb}(h:H.blk.get b=some (.text t v))(hb:(a b).isSome) :
  ∃arr fz,w.heap[a.blk b]?=some (.cells arr t fz)/\ZY P a .u8 t v (a.sh b) (a.ext b) arr fz:=by
 obtain⟨x,hx⟩:=Option.isSome_iff_exists.1 hb;obtain⟨arr,fz,h1,h2⟩:=hR.blk b _ x h hx;refine⟨arr,fz,?_,?_⟩
 .simpa[Inj.blk,hx] using h1
 .simpa[Inj.sh,Inj.ext,hx] using h2
theorem Rel.rowAt{P:Program}{a:Inj}{H:Heap}{w:World}(hR:Rel P a H w){b:Nat}{r:Row}(h:H.row b=some r)(hb:(a b).isSome) :
  ∃arr fz,w.heap[a.blk b]?=some (.cells arr r.t fz)/\j9 P a r.t r.n r.c (a.sh b) (a.ext b) arr fz:=by
 obtain⟨x,hx⟩:=Option.isSome_iff_exists.1 hb;obtain⟨f,d,e⟩:=QR h;have:=(zat e).1 (hR.blk b _ x d hx);obtain⟨arr,fz,h1,h2⟩:=this;refine⟨arr,fz,?_,?_⟩
 .simpa[Inj.blk,hx] using h1
 .simpa[Inj.sh,Inj.ext,hx] using h2
theorem cell_of{w:World}{c o:Nat}{arr:Array Value}{t:TypeId}{fz:Nat×Nat}(h:w.heap[c]?=some (.cells arr t fz)):w.cell? ⟨c,o,none⟩=arr[o]?:=by
 simp[World.cell?,h]
theorem zof{w:World}{c o:Nat}{arr:Array Value}{t:TypeId}{fz:Nat×Nat}(h:w.heap[c]?=some (.cells arr t fz))
  (hf:∀i,i<arr.size->¬(fz.1<=i/\i<fz.2)) (ho:o<arr.size):w.frozen? ⟨c,o,none⟩=false:=by
 have:=hf o ho;simp only[World.frozen?,h];simp only[Bool.and_eq_false_iff,decide_eq_false_iff_not];omega
theorem zjS{w:World}{c o:Nat}{arr:Array Value}{t:TypeId}{fz:Nat×Nat}(h:w.heap[c]?=some (.cells arr t fz))(v:Value) :
  (w.setCell ⟨c,o,none⟩ v).heap[c]?=some (.cells (arr.setIfInBounds o v) t fz)/\JS c w (w.setCell ⟨c,o,none⟩ v):=by
 refine⟨?_,⟨?_,?_,rfl,rfl,rfl⟩⟩
 .simp only[World.setCell,Array.getElem?_modify,if_true,h];simp
 .intro k a;simp only[World.setCell,Array.getElem?_modify];rw[if_neg (by simpa using fun e=>a e.symm)]
 .simp[World.setCell]
theorem Rel.cell{P:Program}{d:Inj}{H:Heap}{w:World}(hR:Rel P d H w){b off:Nat}{r:Row}{v:zb}(h:H.row b=some r)(hb:(d b).isSome)
  (hv:r.c.get off=some v):w.cell? (d.addr b off)=some (zc d v)/\WF d v:=by
 obtain⟨arr,fz,h1,h2⟩:=hR.rowAt h hb;obtain⟨a,c⟩:=h2.cell off v hv;exact⟨by rw[Inj.addr,cell_of h1];exact c,a⟩
theorem Rel.zij{P:Program}{a:Inj}{H:Heap}{w:World}(hR:Rel P a H w){b off:Nat}{v:zb}(h:H.zij b off=some v)(hb:(a b).isSome) :
  w.cell? (a.addr b off)=some (zc a v)/\WF a v:=by
 unfold Heap.zij at h
 cases d:H.row b with
 | some r=>
  rw[d,zd]at h
  exact hR.cell d hb h
 | none=>
  rw[d,zm]at h;obtain⟨k,e,h⟩:=ze h;obtain⟨c,hc,h⟩:=ze h;cases k<;>cases hc;obtain⟨x,hx⟩:=Option.isSome_iff_exists.1 hb;obtain⟨arr,t,fz,h1,h2⟩:=hR.blk b _ x e hx;obtain⟨h3,f⟩:=h2 off v h;refine⟨?_,h3⟩;have i:a.blk b=x.1:=by simp[Inj.blk,hx]
  have g:a.sh b=x.2.1:=by simp[Inj.sh,hx]
  rw[Inj.addr,i,g,cell_of h1];exact f
theorem Rel.kM{P:Program}{a:Inj}{H:Heap}{w:World}(hR:Rel P a H w){b off n:Nat}{l:List zb}(h:H.kM b off n=some l)(hb:(a b).isSome) :
  l.length=n/\WFs a l/\(loadCells (a.addr b off) n).run P w = .ok (zf a l).toArray w:=by
 obtain⟨r,f,h⟩:=ze h;obtain⟨h1,h2⟩:=Tr.jx _ _ _ _ h
 have h3:∀k v,l[k]?=some v->w.cell? ((a.addr b off).add k)=some (zc a v)/\WF a v:=by
  intro k v d;have e:k<n:=by rw[<- h1];exact(List.getElem?_eq_some_iff.1 d).1
  rw[Inj.jF];exact hR.cell f hb (by rw[h2 k e];exact d)
 refine⟨h1,(zV _ _).2 fun v hv=>?_,?_⟩
 .obtain⟨k,d⟩:=List.mem_iff_getElem?.1 hv;exact(h3 k v d).2
 .have:=run_loadCells_list (P:=P) (w:=w) (a.addr b off) (zf a l) (by
   intro j v c;rw[zx,List.getElem?_map]at c
   cases hl:l[j]? with
   | none=>rw[hl]at c;cases c
   | some u=>rw[hl]at c;cases c;exact(h3 j u hl).1)
  rwa[zx,length_map,h1,<- zx]at this
section
variable{E:Env}(hE:yg E)
include hE
theorem Rel.loadVar{a:Inj}{H:Heap}{w:World}(hR:Rel E.P a H w){t:TypeId}{b off:Nat}{v:zb}(h:E.loadVar H t b off=some v)(hb:(a b).isSome) :
  WF a v/\(loadVar t (a.addr b off)).run E.P w = .ok (zc a v) w:=by
 obtain⟨g,c,h⟩:=ze h;unfold Go.loadVar;rw[Sem.run_bind,zez hE c]
 cases g with
 | true=>
  obtain⟨n,hn,h⟩:=ze h;obtain⟨l,hl,h⟩:=ze h;cases h;obtain⟨h1,h2,h3⟩:=hR.kM hl hb;refine⟨h2,?_⟩
  simp[qx hE hn,h3,zc]
 | false=>
  obtain⟨h1,h2⟩:=hR.zij h hb;refine⟨h2,?_⟩;simp[h1]
end
theorem zf2(a:Inj)(v:zb):(zc a v).oneCell'=yS v:=by
 cases v<;>first|rfl|(rename_i i;rw[zc];have hp:=zb7 ((a i).getD (0,0,0));revert hp;cases qe ((a i).getD (0,0,0))<;>intro hp<;>first|rfl|cases hp)
theorem U6{a:Inj}{v:zb}(h:yS v=true):(zc a v).oneCell'=true:=by rw[zf2];exact h
theorem VC{P:Program}(c o:Nat)(t:TypeId)(fz:Nat×Nat):∀(vs:List Value) (i:Nat) (w:World) (arr:Array Value),
  w.heap[c]?=some (.cells arr t fz)->(∀i,i<arr.size->¬(fz.1<=i/\i<fz.2))->o+i+vs.length<=arr.size->(∀v∈vs,v.oneCell'=true) ->
  ∃w' a,(storeCells ⟨c,o,none⟩ vs i).run P w = .ok () w'/\w'.heap[c]?=some (.cells a t fz)/\JS c w w'/\a.size=arr.size /\
   ∀k,a[k]?=if o+i<=k/\k<o+i+vs.length then vs[k-(o+i)]? else arr[k]?:=by
 intro vs
 induction vs with
 | nil=>
  intro i w arr h _ _ _;refine⟨w,arr,by simp[storeCells],h,.refl _ _,rfl,fun k=>?_⟩
  rw[if_neg (by simp)]
 | cons v vs j=>
  intro i w arr h b hs hv
  have m:(⟨c,o,none⟩:Addr).add i=⟨c,o+i,none⟩:=by
   unfold Addr.add;by_cases hi:i=0<;>simp[hi]
  simp only[length_cons]at hs;obtain⟨s1,s2⟩:=zjS (o:=o+i) h v;obtain⟨w',a,g,f,e,d,r5⟩:=j (i+1) (w.setCell ⟨c,o+i,none⟩ v) (arr.setIfInBounds (o+i) v) s1 (by simpa using b) (by simp;omega) (fun u l=>hv u (by simp[l]));refine⟨w',a,?_,f,s2.trans e,by simpa using d,fun k=>?_⟩
  .rw[storeCells,Sem.run_bind,m,run_store _ _ _ _ _ (hv v (by simp)),cell_of h,Array.getElem?_eq_getElem (by omega)];simp only[zof h b (by omega:o+i<arr.size)];exact g
  .rw[r5 k];by_cases h1:o+(i+1)<=k/\k<o+(i+1)+vs.length
   .rw[if_pos h1,if_pos (by simp;omega)];have:k-(o+i)=(k-(o+(i+1)))+1:=by omega
    rw[this,getElem?_cons_succ]
   .rw[if_neg h1,getElem?_setIfInBounds];by_cases h2:o+i=k
    .subst h2;simp only[if_true];rw[if_pos (by omega),if_pos (by simp)];simp
    .rw[if_neg h2,if_neg (by simp;omega)]
theorem Rel.Jv{P:Program}{a:Inj}{H H':Heap}{w:World}(hR:Rel P a H w){b off:Nat}{l:List zb}(h:H.Jv b off l=some H')(hb:(a b).isSome)(hl:WFs a l) :
  ∃w',(storeCells (a.addr b off) (zf a l)).run P w = .ok () w'/\Rel P a H' w'/\Ext a H w a H' w':=by
 obtain⟨r,k,h⟩:=ze h;obtain⟨h1,h⟩:=zg h;cases h;rw[zk,zk,Bool.and_eq_true,Bool.and_eq_true,zG,decide_eq_true_eq,zG,decide_eq_true_eq,jE,ZX]at h1;obtain⟨h60,hn,f⟩:=h1;have hn:off+l.length<=r.n:=hn;obtain⟨arr,fz,g1,c⟩:=hR.rowAt k hb;obtain⟨x,hx⟩:=Option.isSome_iff_exists.1 hb;have d:a.blk b=x.1:=by simp[Inj.blk,hx]
 have hs:=c.size
 obtain⟨w',e,p,o,m,j,r5⟩:=VC (P:=P) (a.blk b) (a.sh b+off) r.t fz (zf a l) 0 w arr g1 c.thaw
  (by rw[zx,length_map];omega) (by
   intro v hv;rw[zx]at hv;obtain⟨u,y,rfl⟩:=List.mem_map.1 hv
   exact U6 (List.all_eq_true.1 f u y))
 refine⟨w',p,?_⟩;unfold Heap.put;obtain⟨z,g,_⟩:=QR k;refine hR.zpd h60 g hx (by rw[<- d];exact m) ⟨e,fz,by rw[<- d];exact o,⟨?_,?_,?_,by rw[show x.2.1=a.sh b by simp[Inj.sh,hx]];exact c.al⟩⟩
 .have:x.2.1=a.sh b/\x.2.2=a.ext b:=by simp[Inj.sh,Inj.ext,hx]
  rw[this.1,this.2,j];exact c.size
 .intro i v hv;have:x.2.1=a.sh b:=by simp[Inj.sh,hx]
  rw[this,r5,zx,length_map];rw[Tr.zde]at hv;by_cases hi:off<=i/\i<off+l.length
  .rw[if_pos hi]at hv;rw[if_pos (by omega),List.getElem?_map];have:a.sh b+i-(a.sh b+off+0)=i-off:=by omega
   rw[this,hv];exact⟨(zV _ _).1 hl v (List.mem_of_getElem? hv),rfl⟩
  .rw[if_neg hi]at hv;rw[if_neg (by omega)];exact c.cell i v hv
 .rw[j];exact c.thaw
theorem jd(a:Inj)(v:zb):(zc a v).cells=(zf a (zO v)).toArray:=by
 cases v
 case sym i=>
  have hc:zf a (zO (.sym i))=[zc a (.sym i)]:=rfl;have e:zc a (.sym i)=qe ((a i).getD (0,0,0)):=by rw[zc]
  have hp:=zb7 ((a i).getD (0,0,0));rw[hc];rw[<- e]at hp;cases h:zc a (.sym i)<;>first|rfl|(rw[h]at hp;cases hp)
 all_goals simp[zc,Value.cells,zO,zf]
section
variable{E:Env}(hE:yg E)
include hE
theorem zsv{a:Inj}{v:zb}(h:WF a v):WFs a (zO v):=by
 have _:=hE;cases v<;>first|exact h|exact⟨h,trivial⟩
theorem Rel.storeVar{a:Inj}{H H':Heap}{w:World}(hR:Rel E.P a H w){t:TypeId}{b off:Nat}{v:zb}(h:E.storeVar H t b off v=some H')(hb:(a b).isSome)(hv:WF a v) :
  ∃w',(storeVar t (a.addr b off) (zc a v)).run E.P w = .ok () w'/\Rel E.P a H' w'/\Ext a H w a H' w':=by
 obtain⟨n,hn,h⟩:=ze h;obtain⟨h1,h⟩:=zg h;rw[zu,jE,beq_iff_eq]at h1;obtain⟨w',e,d,c⟩:=hR.Jv h hb (zsv hE hv);refine⟨w',?_,d,c⟩;unfold Go.storeVar;rw[jd];simp[qx hE hn,zx,h1];rw[<- zx];exact e
end
end
end Go.AEv
