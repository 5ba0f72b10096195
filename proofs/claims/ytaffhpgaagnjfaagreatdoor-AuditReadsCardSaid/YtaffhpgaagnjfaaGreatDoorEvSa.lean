/- Trails: EvSa. Conditions: each theorem's. -/
import Derived.Test.YtaffhpgaagnjfaaGreatDoorEvK
import Derived.Laws.Sem
import Derived.Laws.Cells
set_option linter.all false
open List Nat Array
namespace Go.AEv
variable{H H':Heap}{P:Ef}{a r v:G}{arr:Eh}{as:List G}{b c i n off:Nat}{b':X}{f:Fact}{fz:Nat×Nat}{t:Eg}{w w':Ea}{x:Ej}
section
universe u v
@[simp] theorem qX {α:Sort u} (t e:α):ifB true t e=t:=rfl
@[simp] theorem yy {α:Sort u} (t e:α):ifB false t e=e:=rfl
def zo{α:Sort u}(b:Bool)(t e:α):ifB b t e=if b then t else e:=by cases b<;>rfl
@[simp] theorem zh9 {α:Type u}{β:Type v} (f:α->Option β):bnd none f=none:=rfl
@[simp] theorem qJ {α:Type u}{β:Type v} (a:α) (f:α->Option β):bnd (some a) f=f a:=rfl
def D{α:Type u}{c:Type v}{x:Option α}{f:α->Option c}{b:c}(h:bnd x f=some b):∃a,x=some a/\f a=some b:=by
 cases x with
 | none=>cases h
 | some a=>exact⟨a,rfl,h⟩
@[simp] theorem zn {α:Type u}{β:Sort v} (e:β) (f:α->β):Z none e f=e:=rfl
@[simp] theorem ze {α:Type u}{β:Sort v} (a:α) (e:β) (f:α->β):Z (some a) e f=f a:=rfl
@[simp] theorem qg {α:Sort u} (n:Nat) (f:Nat->α):frc n f=f n:=rfl
@[simp] theorem aS {α:Sort u} (z:α) (s:Nat->α):jY 0 z s=z:=rfl
@[simp] theorem Vc {α:Sort u} (n:Nat) (z:α) (s:Nat->α):jY (n+1) z s=s n:=rfl
@[simp] theorem Qy {α:Sort u} (n:Nat) (p q:Nat->α):Qi (.ofNat n) p q=p n:=rfl
@[simp] theorem yZ {α:Sort u} (n:Nat) (p q:Nat->α):Qi (.negSucc n) p q=q n:=rfl
@[simp] theorem ou {α:Type u}{β:Sort v} (z:β) (s:α->List α->β):lC [] z s=z:=rfl
@[simp] theorem ZY {α:Type u}{β:Sort v} (a:α) (l:List α) (z:β) (s:α->List α->β):lC (a::l) z s=s a l:=rfl
def zl(a b:Bool):L a b=(a&&b):=by cases a<;>rfl
def qW(a:Bool):kV a = !a:=by cases a<;>rfl
def XJ(a b:Bool):Hl a b=(a==b):=by cases a<;>cases b<;>rfl
def zA(a b:Nat):Nat.beq a b=(a==b):=by
 rw[Bool.eq_iff_iff];simp[beq_eq]
def zW(a b:Nat):Nat.blt a b=decide (a<b):=by
 rw[Bool.eq_iff_iff];simp[Nat.blt,succ_le_iff]
def zK(a b:Nat):Nat.ble a b=decide (a<=b):=by
 rw[Bool.eq_iff_iff];simp
def zh{α:Type u}{b:Bool}{t:Option α}{a:α}(h:ifB b t none=some a):b=true/\t=some a:=by
 cases b
 .cases h
 .exact⟨rfl,h⟩
def Za{α:Type u}{b:Bool}{t:Option α}{a:α}(h:ifB b none t=some a):b=false/\t=some a:=by
 cases b
 .exact⟨rfl,h⟩
 .cases h
def sF:∀(i j:Nat),path i=path j->i=j:=by
 have key:∀f i g j,i<f->j<g->We f i=We g j->i=j:=by
  intro f
  induction f with
  | zero=>intro i g j hi;omega
  | succ f c=>
   intro i g j hi m h
   cases g with
   | zero=>omega
   | succ g=>
    have l:∀f i,We (f+1) i=ifB (Nat.beq i 0) Pa.e (ifB (Nat.beq (Nat.mod i 2) 1) (.o (We f (Nat.div i 2))) (.i (We f (pred (Nat.div i 2))))):=λ_ _=>rfl;rw[l,l]at h;have m1:∀i,Nat.mod i 2=i % 2:=λ_=>rfl;have d1:∀i,Nat.div i 2=i / 2:=λ_=>rfl;simp only[zo,beq_eq,m1,d1,pred_eq_sub_one]at h;by_cases k:i=0
    .by_cases b:j=0
     .omega
     .rw[Y k,O b]at h;split at h<;>cases h
    .rw[O k]at h;by_cases b:j=0
     .rw[Y b]at h;split at h<;>cases h
     .rw[O b]at h;by_cases d:i % 2=1
      .rw[Y d]at h;by_cases a:j % 2=1
       .rw[Y a]at h;injection h with h;have:=c (i / 2) g (j / 2) I I h;omega
       .rw[O a]at h;cases h
      .rw[O d]at h;by_cases a:j % 2=1
       .rw[Y a]at h;cases h
       .rw[O a]at h;injection h with h;have:=c (i / 2-1) g (j / 2-1) I I h;omega
 intro i j h;exact key (i+1) i (j+1) j I I h
def JK{α:Type}(q:Pa):Yq q (M.nil:M α)=none:=by cases q<;>rfl
def V2{α:Type}(l:M α)(v:Option α)(r:M α):Yq .e (.node l v r)=v:=rfl
def Q5{α:Type}(p:Pa)(l:M α)(v:Option α)(r:M α):Yq (.o p) (.node l v r)=Yq p l:=rfl
def Q6{α:Type}(p:Pa)(l:M α)(v:Option α)(r:M α):Yq (.i p) (.node l v r)=Yq p r:=rfl
def lQ{α:Type}(a:Option α):∀(p q:Pa) (t:M α),Yq q (aH a p t)=if p=q then a else Yq q t:=by
 intro p
 induction p with
 | e=>
  intro q t
  cases t with
  | nil=>
   have h:aH a .e (M.nil:M α) = .node .nil a .nil:=rfl
   rw[h];cases q<;>simp[V2,Q5,Q6,JK]
  | node l v r=>
   have h:aH a .e (.node l v r) = .node l a r:=rfl
   rw[h];cases q<;>simp[V2,Q5,Q6]
 | o p b=>
  intro q t
  cases t with
  | nil=>
   have h:aH a (.o p) (M.nil:M α) = .node (aH a p .nil) none .nil:=rfl
   rw[h];cases q<;>simp[V2,Q5,Q6,JK,b]
  | node l v r=>
   have h:aH a (.o p) (.node l v r) = .node (aH a p l) v r:=rfl
   rw[h];cases q<;>simp[V2,Q5,Q6,b]
 | i p b=>
  intro q t
  cases t with
  | nil=>
   have h:aH a (.i p) (M.nil:M α) = .node .nil none (aH a p .nil):=rfl
   rw[h];cases q<;>simp[V2,Q5,Q6,JK,b]
  | node l v r=>
   have h:aH a (.i p) (.node l v r) = .node l v (aH a p r):=rfl;rw[h];cases q<;>simp[V2,Q5,Q6,b]
def Xn(f i:Nat):We (f+1) i=ifB (Nat.beq i 0) Pa.e (ifB (Nat.beq (Nat.mod i 2) 1) (.o (We f (Nat.div i 2))) (.i (We f (pred (Nat.div i 2))))):=rfl
def eV:∀f g i,i<f->i<g->We f i=We g i:=by
 intro f
 induction f with
 | zero=>intro g i h;omega
 | succ f a=>
  intro g i d c
  cases g with
  | zero=>omega
  | succ g=>
   rw[Xn,Xn];by_cases b:i=0
   .subst b;rfl
   .have hd:Nat.div i 2<i:=div_lt_self I C;have hp:pred (Nat.div i 2)<i:=AX (pred_le _) hd;rw[a g (Nat.div i 2) I I,a g (pred (Nat.div i 2)) I I]
def Mv(j:Nat):path (2*j+1) = .o (path j):=by
 unfold path;rw[show Nat.succ (2*j+1)=(2*j+1)+1 from rfl,Xn];have a:Nat.beq (2*j+1) 0=false:=rfl
 have h1:Nat.beq (Nat.mod (2*j+1) 2) 1=true:=by
  rw[zA,Ll];show(2*j+1) % 2=1;omega
 have h2:Nat.div (2*j+1) 2=j:=by show(2*j+1) / 2=j;omega
 rw[a,yy,h1,qX,h2,eV (2*j+1) (Nat.succ j) j I I]
def FM(j:Nat):path (2*j+2) = .i (path j):=by
 unfold path;rw[show Nat.succ (2*j+2)=(2*j+2)+1 from rfl,Xn];have a:Nat.beq (2*j+2) 0=false:=rfl
 have h1:Nat.beq (Nat.mod (2*j+2) 2) 1=false:=by
  rw[zA];show((2*j+2) % 2==1)=false;simp
 have h2:pred (Nat.div (2*j+2) 2)=j:=by show(2*j+2) / 2-1=j;omega
 rw[a,yy,h1,yy,h2,eV (2*j+2) (Nat.succ j) j I I]
def QM{α:Type}(l:M α)(v:Option α)(r:M α):(M.node l v r).get 0=v:=rfl
def Zb{α:Type}(l:M α)(v:Option α)(r:M α)(j:Nat):(M.node l v r).get (2*j+1)=l.get j:=by
 unfold M.get;rw[Mv,Q5]
def yz{α:Type}(l:M α)(v:Option α)(r:M α)(j:Nat):(M.node l v r).get (2*j+2)=r.get j:=by
 unfold M.get;rw[FM,Q6]
namespace M
variable{α:Type}
def zN(t:M α)(i j:Nat)(a:α):(t.set i a).get j=if i=j then some a else t.get j:=by
 unfold M.set M.get;rw[lQ];by_cases h:i=j
 .simp[h]
 .rw[O h,O λe=>h (sF _ _ e)]
def jv(t:M α)(i j:Nat):(t.del i).get j=if i=j then none else t.get j:=by
 unfold M.del M.get;rw[lQ];by_cases h:i=j
 .simp[h]
 .rw[O h,O λe=>h (sF _ _ e)]
@[simp] theorem get_nil (i:Nat):(M.nil:M α).get i=none:=by
 unfold M.get;cases path i<;>rfl
def mC(l:List α):∀(t:M α) (i j:Nat),(sf l t i).get j=if i<=j/\j<i+l.length then l[j-i]? else t.get j:=by
 induction l with
 | nil=>intro t i j;rw[O Oc];rfl
 | cons a l b=>
  intro t i j;have h:sf (a::l) t i=sf l (t.set i a) (i+1):=rfl;rw[h,b,zN];by_cases h1:i+1<=j/\j<i+1+l.length
  .rw[Y h1,Y (by simp;omega)];have:j-i=(j-(i+1))+1:=by omega
   rw[this,Ap]
  .rw[O h1];by_cases h2:i=j
   .subst h2;simp
   .rw[O h2,O (by simp;omega)]
def DC(m:List α):∀j,(alt m true)[j]?=m[2*j]?/\(alt m false)[j]?=m[2*j+1]?:=by
 induction m with
 | nil=>intro j;exact⟨by simp[alt],by simp[alt]⟩
 | cons a m b=>
  have d:alt (a::m) true=a::alt m false:=rfl;have c:alt (a::m) false=alt m true:=rfl;intro j;rw[d,c];refine⟨?_,?_⟩
  .cases j with
   | zero=>rfl
   | succ j=>
    rw[Ap,(b j).2,show 2*(j+1)=(2*j+1)+1 from I,Ap]
  .rw[(b j).1,Ap]
def Bi(m:List α):(alt m true).length<=m.length/\(alt m false).length<=m.length:=by
 induction m with
 | nil=>exact⟨Lh _,Lh _⟩
 | cons a m d=>
  have c:alt (a::m) true=a::alt m false:=rfl;have b:alt (a::m) false=alt m true:=rfl;rw[c,b,Am,Am];omega
def parts(i:Nat):i=0\/(∃j,i=2*j+1)\/∃j,i=2*j+2:=by
 rcases eq_zero_or_pos i with h|h
 .exact .inl h
 .rcases mod_two_eq_zero_or_one i with h2|h2
  .exact .inr (.inr ⟨i / 2-1,I⟩)
  .exact .inr (.inl ⟨i / 2,I⟩)
def Gr:∀(f:Nat) (l:List α) (j:Nat),l.length<=f->(build f l).get j=l[j]?:=by
 intro f
 induction f with
 | zero=>
  intro l j h
  cases l with
  | nil=>show(M.nil:M α).get j=_;rw[get_nil];simp
  | cons a l=>simp at h
 | succ f b=>
  intro l j h
  cases l with
  | nil=>show(M.nil:M α).get j=_;rw[get_nil];simp
  | cons a m=>
   have e:build (f+1) (a::m) = .node (build f (alt m true)) (some a) (build f (alt m false)):=rfl;have hl:=Bi m;simp only[Am]at h;rw[e];rcases parts j with rfl|⟨k,rfl⟩|⟨k,rfl⟩
   .rw[QM];rfl
   .rw[Zb,b _ _ I,(DC m k).1,Ap]
   .rw[yz,b _ _ I,(DC m k).2,show 2*k+2=(2*k+1)+1 from rfl,Ap]
def tw(l:List α):∀n,je l n=l.length+n:=by
 induction l with
 | nil=>intro n;show n=_;simp
 | cons a l b=>intro n;show je l (n+1)=_;rw[b];simp;omega
def qy(l:List α)(j:Nat):(ofList l).get j=l[j]?:=by
 unfold ofList;rw[qg,tw,zo];split
 .rw[mC];by_cases h:j<l.length
  .rw[Y I];simp
  .rw[O I,get_nil,Au I]
 .exact Gr _ _ _ I
def zac(t:M α)(j:Nat):(lft t).get j=t.get (2*j+1):=by
 cases t with
 | nil=>show(M.nil:M α).get j=_;rw[get_nil,get_nil]
 | node l v r=>rw[Zb];rfl
def zab(t:M α)(j:Nat):(rgt t).get j=t.get (2*j+2):=by
 cases t with
 | nil=>show(M.nil:M α).get j=_;rw[get_nil,get_nil]
 | node l v r=>rw[yz];rfl
def zaa(t:M α):top t=t.get 0:=by
 cases t with
 | nil=>rw[get_nil];rfl
 | node l v r=>rfl
def Pq(u:M α)(lo hi:Nat):∀(f:Nat) (t:M α) (a s:Nat),hi<f+a->0<s->∀j,(over u lo hi f t a s).get j=if lo<=a+s*j/\a+s*j<hi then u.get (a+s*j-lo) else t.get j:=by
 intro f
 induction f with
 | zero=>
  intro t a s h hs j;rw[O (by have:a<=a+s*j:=Al _ _;omega)]
  rfl
 | succ f c=>
  intro t a s h hs j;have e:over u lo hi (f+1) t a s=ifB (Nat.ble hi a) t (.node (over u lo hi f (lft t) (a+s) (s+s)) (ifB (Nat.ble lo a) (u.get (a-lo)) (top t)) (over u lo hi f (rgt t) (a+s+s) (s+s))):=rfl;rw[e,zo,zK];by_cases hb:hi<=a
  .rw[Y (Lx hb),O (by have:a<=a+s*j:=Al _ _;omega)]
  .rw[O (by simpa using hb)];rcases parts j with rfl|⟨k,rfl⟩|⟨k,rfl⟩
   .rw[QM,zo,zK];simp only[Nat.mul_zero,Nat.add_zero];by_cases hl:lo<=a
    .rw[Y (Lx hl),Y ⟨hl,I⟩]
    .rw[O (by simpa using hl),O I,zaa]
   .have b:s*(2*k+1)=s+(s+s)*k:=by
     rw[Nat.mul_add,Nat.add_mul,<- Nat.mul_assoc,Nat.mul_comm s 2,Ak,Nat.two_mul,Nat.add_mul];omega
    rw[Zb,c _ _ _ I I,zac,b,AU]
   .have b:s*(2*k+2)=s+s+(s+s)*k:=by
     rw[Nat.mul_add,Nat.add_mul,<- Nat.mul_assoc,Nat.mul_comm s 2,Nat.two_mul,Nat.add_mul];omega
    rw[yz,c _ _ _ I I,zab,b];simp only[AU]
def fZ(l:List α)(t:M α)(i j:Nat):(nC l t i).get j=if i<=j/\j<i+l.length then l[j-i]? else t.get j:=by
 unfold nC;rw[qg,tw,zo];split
 .exact mC l t i j
 .rw[qg,Pq _ _ _ _ _ _ _ I C];simp only[Lz,Nat.one_mul,Nat.add_zero];rw[show Nat.add i l.length=i+l.length from rfl,qy]
def xi(n:Nat):∀(t:M α) (i:Nat) (l:List α),kX n t i=some l->l.length=n/\∀k,k<n->t.get (i+k)=l[k]?:=by
 induction n with
 | zero=>intro t i l h;cases h;exact⟨rfl,λk c=>I⟩
 | succ n b=>
  intro t i l h;have e:kX (n+1) t i=bnd (t.get i) λa=>bnd (kX n t (i+1)) λl=>some (a::l):=rfl;rw[e]at h;obtain⟨a,ha,h⟩:=D h;obtain⟨m,hm,h⟩:=D h;cases h;obtain⟨h1,h2⟩:=b _ _ _ hm;refine⟨by simp[h1],λk c=>?_⟩
  cases k with
  | zero=>simpa using ha
  | succ k=>have:=h2 k I;rw[Ap,<- this];congr 1;omega
def Gp(t:M α):∀(h k i:Nat),kX (h+k) t i=bnd (kX h t i) λl=>bnd (kX k t (i+h)) λm=>some (l++m):=by
 intro h
 induction h with
 | zero=>
  intro k i;rw[Lz];show _=bnd (kX k t (i+0)) λm=>some ([]++m);rw[Nat.add_zero]
  cases kX k t i<;>rfl
 | succ h b=>
  intro k i;rw[show h+1+k=(h+k)+1 from I];show(bnd (t.get i) λa=>bnd (kX (h+k) t (i+1)) λl=>some (a::l))=bnd (bnd (t.get i) λa=>bnd (kX h t (i+1)) λl=>some (a::l)) λl=>bnd (kX k t (i+(h+1))) λm=>some (l++m);rw[b k (i+1),show i+1+h=i+(h+1) from I]
  cases t.get i with
  | none=>rfl
  | some a=>
   show(bnd (bnd (kX h t (i+1)) λl=>bnd (kX k t (i+(h+1))) λm=>some (l++m)) λl=>some (a::l))=bnd (bnd (kX h t (i+1)) λl=>some (a::l)) λl=>bnd (kX k t (i+(h+1))) λm=>some (l++m)
   cases kX h t (i+1) with
   | none=>rfl
   | some l=>
    show(bnd (bnd (kX k t (i+(h+1))) λm=>some (l++m)) λl=>some (a::l))=bnd (kX k t (i+(h+1))) λm=>some (a::l++m);cases kX k t (i+(h+1))<;>rfl
def pF(l m:List α):zX l m=l++m:=by
 induction l with
 | nil=>rfl
 | cons a l b=>show a::zX l m=_;rw[b];rfl
def Po(t:M α):∀(f n i:Nat),tX f n t i=kX n t i:=by
 intro f
 induction f with
 | zero=>intro n i;rfl
 | succ f a=>
  intro n i;have e:tX (f+1) n t i=ifB (Nat.ble n 32) (kX n t i) (bnd (tX f (n / 2) t i) λl=>bnd (tX f (n-n / 2) t (i+n / 2)) λm=>some (zX l m)):=rfl;rw[e,zo];split
  .rfl
  .rw[a,a];have h:=Gp t (n / 2) (n-n / 2) i;rw[show n / 2+(n-n / 2)=n from I]at h;rw[h];simp only[pF]
def C2(n:Nat)(t:M α)(i:Nat):Xu n t i=kX n t i:=Po t 20 n i
def jZ(n:Nat)(t:M α)(i:Nat)(l:List α)(h:Xu n t i=some l):l.length=n/\∀k,k<n->t.get (i+k)=l[k]?:=xi n t i l (by rw[<- C2];exact h)
end M
def CN{α:Type}(l:List α):∀n,je l n=l.length+n:=by
 induction l with
 | nil=>intro n;show n=_;simp
 | cons a l b=>intro n;show je l (n+1)=_;rw[b];simp;omega
@[simp] theorem jV {α:Type} (l:List α):je l 0=l.length:=by rw[CN];rfl
@[simp] theorem zZ {α:Type} (l m:List α):zX l m=l++m:=by
 induction l with
 | nil=>rfl
 | cons a l ih=>show a::zX l m=_;rw[ih];rfl
@[simp] theorem jI {α β:Type} (f:α->β) (l:List α):mapA f l=l.map f:=by
 induction l with
 | nil=>rfl
 | cons a l ih=>show f a::mapA f l=_;rw[ih];rfl
@[simp] theorem K0 {α:Type} (n:Nat):∀l:List α,ek n l=l.take n:=by
 induction n with
 | zero=>intro l;rw[take_zero];rfl
 | succ n ih=>intro l;cases l with
  | nil=>rfl
  | cons a l=>show a::ek n l=_;rw[ih];rfl
@[simp] theorem gu {α:Type} (n:Nat):∀l:List α,mN n l=l.drop n:=by
 induction n with
 | zero=>intro l;rfl
 | succ n ih=>intro l;cases l with
  | nil=>rfl
  | cons a l=>show mN n l=_;rw[ih];rfl
@[simp] theorem yY {α:Type} (n:Nat):∀l:List α,yG n l=l[n]?:=by
 induction n with
 | zero=>intro l;cases l<;>rfl
 | succ n ih=>intro l;cases l with
  | nil=>rfl
  | cons a l=>show yG n l=_;rw[ih];rfl
def Z9(p:G->Bool)(l:List G):Jb p l=l.all p:=by
 induction l with
 | nil=>rfl
 | cons a l b=>show ifB (p a) (Jb p l) false=_;rw[b];cases h:p a<;>simp[h]
def Cg(z:List G)(n:Nat):Jg z n=(List.replicate n z).flatten:=by
 induction n with
 | zero=>rfl
 | succ n a=>show zX z (Jg z n)=_;rw[a,zZ,List.replicate_succ,AY]
def QK(a b:Int):bd a b=(a==b):=by
 cases a<;>cases b<;>simp only[bd,Qy,yZ,zA]<;>rw[Bool.eq_iff_iff]<;>simp<;>omega
def Zi(a b:Int):ilt a b=decide (a<b):=by
 cases a<;>cases b<;>simp only[ilt,Qy,yZ,zW]<;>rw[Bool.eq_iff_iff]<;>simp<;>omega
def Uv(a:Eb):∀b,iP a b=(a==b):=by
 induction a with
 | nil=>intro b;cases b<;>rfl
 | cons x a c=>
  intro b
  cases b with
  | nil=>rfl
  | cons y b=>
   show ifB (Nat.beq x y) (iP a b) false=_;rw[c,zA,zo];by_cases h:x=y<;>simp[h]
def Xs(a b:Et):NI a b=true↔a=b:=by cases a<;>cases b<;>decide
mutual
def zV:∀(a b:G),qF a b=true->a=b
 | .bool a,b=>by cases b<;>simp[qF,XJ]
 | .int k a,b=>by
  cases b<;>simp[qF,zl,QK,Xs]
 | .str s,b=>by cases b<;>simp[qF,Uv]
 | .nilp,b=>by cases b<;>simp[qF]
 | .ptr x y,b=>by
  cases b<;>simp[qF,zl]
 | .nilslice,b=>by cases b<;>simp[qF]
 | .slice x y z u v,b=>by
  cases b<;>simp[qF,zl,XJ]
 | .nilmap,b=>by cases b<;>simp[qF]
 | .map r,b=>by cases b<;>simp[qF]
 | .fn f l m,b=>by
  cases b<;>simp[qF,zl]
  intro h1 h2 h3;exact⟨h1,j5 _ _ h2,j5 _ _ h3⟩
 | .yieldf l,b=>by cases b<;>simp[qF]
 | .capv x y,b=>by
  cases b<;>simp[qF,zl]
 | .nilfn,b=>by cases b<;>simp[qF]
 | .iface t v,b=>by
  cases b<;>simp[qF,zl]
  intro h1 h2;exact⟨h1,zV _ _ h2⟩
 | .niliface,b=>by cases b<;>simp[qF]
 | .agg l,b=>by
  cases b<;>simp[qF]
  intro h;exact j5 _ _ h
 | .tuple l,b=>by
  cases b<;>simp[qF]
  intro h;exact j5 _ _ h
 | .sym i,b=>by cases b<;>simp[qF]
 | .esl x y z,b=>by cases b<;>simp[qF,zl]
 | .osl x v,b=>by
  cases b<;>simp[qF,zl]
  intro h1 h2;exact⟨h1,zV _ _ h2⟩
 | .psl a b c d e,v=>by cases v<;>simp[qF,zl,XJ]
def j5:∀(a b:List G),yh a b=true->a=b
 | [],b=>by cases b<;>simp[yh]
 | x::l,b=>by
  cases b with
  | nil=>simp[yh]
  | cons y m=>
   simp[yh,zl];intro h1 h2;exact⟨zV _ _ h1,j5 _ _ h2⟩
end
end
def vC(a k:Nat):Nat.shiftLeft a k=a*2 ^ k:=Nat.shiftLeft_eq a k
def vB(a k:Nat):Nat.shiftRight a k=a / 2 ^ k:=Nat.shiftRight_eq_div_pow a k
def km(N i:Nat):byteOf N i=N / 2 ^ (8*i) % 256:=by
 unfold byteOf;rw[vB];rfl
def Hh(N i:Nat):byteOf N i<256:=by rw[km];exact Af _ C
def BK(N o l:Nat):Xg N o l=N / 2 ^ (8*o) % 2 ^ (8*l):=by
 unfold Xg;rw[vB,vC,Nat.one_mul];rfl
def dO(n S M:Nat):bt n S M=S+M*2 ^ (8*n):=by
 unfold bt;rw[vC];rfl
def aI{l:Nat}(h:i<=l):2 ^ (8*l)=2 ^ (8*i)*2 ^ (8*(l-i)):=by
 rw[<- Nat.pow_add];congr 1;omega
def PM{k:Nat}(h:1<=k):256 ∣ 2 ^ (8*k):=by
 have:2 ^ (8*k)=256*2 ^ (8*(k-1)):=by
  rw[show(256:Nat)=2 ^ 8 from rfl,<- Nat.pow_add];congr 1;omega
 rw[this];exact Nat.dvd_mul_right _ _
def Kv{N o l:Nat}(h:i<l):byteOf (Xg N o l) i=byteOf N (o+i):=by
 rw[km,km,BK,aI (Nat.le_of_lt h),mod_mul_right_div_self,mod_mod_of_dvd _ (PM I),Nat.div_div_eq_div_mul,<- Nat.pow_add];congr 3;omega
def sub_lt(N o l:Nat):Xg N o l<2 ^ (8*l):=by rw[BK];exact Af _ (Nat.pow_pos C)
def XH{S M:Nat}(b:S<2 ^ (8*n)):byteOf (bt n S M) i=if i<n then byteOf S i else byteOf M (i-n):=by
 rw[km,dO];by_cases h:i<n
 .rw[Y h,km,aI (Nat.le_of_lt h),Nat.mul_comm M,Nat.mul_assoc,add_mul_div_left _ _ (Nat.pow_pos C)];obtain⟨k,a⟩:=PM (k:=n-i) I;rw[a,Nat.mul_assoc,add_mul_mod_self_left]
 .rw[O h,km,aI (show n<=i by omega),<- Nat.div_div_eq_div_mul,add_mul_div_right _ _ (Nat.pow_pos C),div_eq_of_lt b,Lz]
def Kw(N k i:Nat):byteOf (Nat.shiftRight N (8*k)) i=byteOf N (k+i):=by
 rw[km,km,vB,Nat.div_div_eq_div_mul,<- Nat.pow_add];congr 3;omega
namespace M
variable{α:Type}
def Pp(f:Nat->α):∀(d a s n j:Nat),n<=d->(tree f d a s n).get j=if j<n then some (f (a+s*j)) else none:=by
 intro d
 induction d with
 | zero=>
  intro a s n j h;have:n=0:=by omega
  subst this;rw[O I]
  exact get_nil j
 | succ d g=>
  intro a s n j h
  cases n with
  | zero=>rw[O I];exact get_nil j
  | succ m=>
   have e:tree f (d+1) a s (m+1) = .node (tree f d (a+s) (s+s) ((m+1) / 2)) (some (f a)) (tree f d (a+s+s) (s+s) (m / 2)):=rfl;rw[e];rcases parts j with rfl|⟨k,rfl⟩|⟨k,rfl⟩
   .rw[QM,Y I,Nat.mul_zero,Nat.add_zero]
   .have c:s*(2*k+1)=s+(s+s)*k:=by
     rw[Nat.mul_add,Nat.add_mul,<- Nat.mul_assoc,Nat.mul_comm s 2,Ak,Nat.two_mul,Nat.add_mul];omega
    rw[Zb,g _ _ _ _ I,c,AU];by_cases b:k<(m+1) / 2
    .rw[Y b,Y I]
    .rw[O b,O I]
   .have c:s*(2*k+2)=s+s+(s+s)*k:=by
     rw[Nat.mul_add,Nat.add_mul,<- Nat.mul_assoc,Nat.mul_comm s 2,Nat.two_mul,Nat.add_mul];omega
    rw[yz,g _ _ _ _ I,c];by_cases b:k<m / 2
    .rw[Y b,Y I];simp only[AU]
    .rw[O b,O I]
end M
def Yh(n N i:Nat):(unp n N).get i=if i<n then some (.int .u8 (.ofNat (byteOf N i))) else none:=by
 unfold unp;rw[M.Pp _ _ _ _ _ _ (Lh n)];simp only[Lz,Nat.one_mul];rfl
def unp0_get:∀(n N i:Nat),i<n->(unp0 n N)[i]?=some (byteOf N i)
 | 0,_,_,h=>by omega
 | n+1,N,i,h=>by
  have e:unp0 (n+1) N=(N % 256)::unp0 n (Nat.shiftRight N 8):=rfl;rw[e]
  cases i with
  | zero=>simp[km]
  | succ i=>
   rw[Ap,unp0_get n _ i I];have:=Kw N 1 i;rw[show 8*1=8 from rfl]at this;rw[this,Nat.add_comm 1 i]
def unp0_length:∀(n N:Nat),(unp0 n N).length=n
 | 0,_=>rfl
 | n+1,N=>by
  have e:unp0 (n+1) N=(N % 256)::unp0 n (Nat.shiftRight N 8):=rfl;rw[e,Am,unp0_length n]
def unpH_ok:∀(f n N:Nat),(unpH f n N).length=n/\∀i,i<n->(unpH f n N)[i]?=some (byteOf N i)
 | 0,n,N=>⟨unp0_length n N,λi h=>unp0_get n N i h⟩
 | f+1,n,N=>by
  have e:unpH (f+1) n N=ifB (Nat.ble n 8) (unp0 n N) (zX (unpH f (n / 2) (Xg N 0 (n / 2))) (unpH f (n-n / 2) (Nat.shiftRight N (8*(n / 2))))):=rfl;rw[e,zo];split
  .exact⟨unp0_length n N,λi h=>unp0_get n N i h⟩
  .obtain⟨a,d⟩:=unpH_ok f (n / 2) (Xg N 0 (n / 2));obtain⟨c,b⟩:=unpH_ok f (n-n / 2) (Nat.shiftRight N (8*(n / 2)));rw[M.pF];refine⟨by rw[Lm,a,c];omega,λi h=>?_⟩;by_cases hi:i<n / 2
   .rw[Ao I,d i hi,Kv hi,Lz]
   .rw[Aj I,a,b _ I,Kw];congr 2;omega
def unpB_eq:∀(n N:Nat) (r:Eb),unpB n N r=unp0 n N++r
 | 0,_,_=>rfl
 | n+1,N,r=>by
  have e:unpB (n+1) N r=(N % 256)::unpB n (Nat.shiftRight N 8) r:=rfl;have a:unp0 (n+1) N=(N % 256)::unp0 n (Nat.shiftRight N 8):=rfl;rw[e,a,unpB_eq n,cons_append]
def unpA_eq:∀(f n N:Nat) (r:Eb),unpA f n N r=unpH f n N++r
 | 0,n,N,r=>unpB_eq n N r
 | f+1,n,N,r=>by
  have e:unpA (f+1) n N r=ifB (Nat.ble n 8) (unpB n N r) (unpA f (n / 2) (Xg N 0 (n / 2)) (unpA f (n-n / 2) (Nat.shiftRight N (8*(n / 2))) r)):=rfl;have a:unpH (f+1) n N=ifB (Nat.ble n 8) (unp0 n N) (zX (unpH f (n / 2) (Xg N 0 (n / 2))) (unpH f (n-n / 2) (Nat.shiftRight N (8*(n / 2))))):=rfl;rw[e,a,zo,zo];split
  .exact unpB_eq n N r
  .rw[unpA_eq f,unpA_eq f,M.pF,Ae]
def unpL_eq(n N:Nat):unpL n N=unpH 20 n N:=by
 unfold unpL;rw[unpA_eq,AJ]
def unpL_length(n N:Nat):(unpL n N).length=n:=by rw[unpL_eq];exact(unpH_ok 20 n N).1
def unpL_get{N:Nat}(h:i<n):(unpL n N)[i]?=some (byteOf N i):=by rw[unpL_eq];exact(unpH_ok 20 n N).2 i h
def unpL_lt(n N:Nat):∀b∈unpL n N,b<256:=by
 intro b hb;obtain⟨i,hi,rfl⟩:=List.getElem_of_mem hb;rw[unpL_length]at hi;have:=unpL_get (N:=N) hi;rw[Ly (by rw[unpL_length];exact hi)]at this;rw[Aa this];exact Hh _ _
def vW(b:Nat)(l:Eb)(acc k:Nat):XO (b::l) acc k=XO l (acc+b*2 ^ k) (k+8):=by
 show XO l (Nat.add acc (Nat.shiftLeft b k)) (k+8)=_;rw[vC];rfl
def sI:∀(l:Eb) (acc n:Nat),(∀b∈l,b<256)->acc<2 ^ (8*n) ->
  XO l acc (8*n)<2 ^ (8*(n+l.length))/\∀i,byteOf (XO l acc (8*n)) i=if i<n then byteOf acc i else(l[i-n]?).getD 0
 | [],acc,n,_,ha=>by
  have e:XO [] acc (8*n)=acc:=rfl;rw[e];refine⟨ha,λi=>?_⟩;by_cases h:i<n
  .rw[Y h]
  .rw[O h,km,div_eq_of_lt]
   .rfl
   .exact LK ha (Nat.pow_le_pow_right C I)
 | b::l,acc,n,hl,ha=>by
  have hb:=hl b LG;have c:acc+b*2 ^ (8*n)=bt n acc b:=(dO n acc b).symm
  have a:bt n acc b<2 ^ (8*(n+1)):=by
   rw[dO,show 8*(n+1)=8*n+8 from I,Nat.pow_add];have:b*2 ^ (8*n)<=255*2 ^ (8*n):=mul_le_mul_right _ I;have e:2 ^ (8*n)*2 ^ 8=256*2 ^ (8*n):=by rw[Nat.mul_comm]
   rw[e];omega
  rw[vW,c,show 8*n+8=8*(n+1) from I];obtain⟨h1,h2⟩:=sI l (bt n acc b) (n+1) (λx hx=>hl x (LP _ hx)) a;refine⟨by rw[Am,show n+(l.length+1)=n+1+l.length from I];exact h1,λi=>?_⟩;rw[h2,XH ha];by_cases h:i<n
  .rw[Y I,Y h,Y h]
  .by_cases h3:i=n
   .subst h3;rw[Y I,O h,O h,Nat.sub_self];simp[km,AA hb]
   .rw[O I,O h,show i-n=(i-(n+1))+1 from I,Ap]
section
def JJ(v:Ei):Bool:=match v with|.agg _=>false|.tuple _=>false|_=>true
class Unk where
 val:Nat->Value
 plain:∀i,JJ (val i)=true
 place:Nat->Nat×Nat×Nat
 glob:∀g,g<60->place g=(g,0,0)
variable[Unk]
abbrev Inj:=Nat->Option (Nat×Nat×Nat)
def Inj.blk(β:Inj)(b:Nat):Nat:=((β b).getD (0,0,0)).1
def Inj.sh(β:Inj)(b:Nat):Nat:=((β b).getD (0,0,0)).2.1
def Inj.ext(β:Inj)(b:Nat):Nat:=((β b).getD (0,0,0)).2.2
def Inj.addr(β:Inj)(b off:Nat):Addr:=⟨β.blk b,β.sh b+off,none⟩
def str(s:Eb):ByteArray:=⟨(s.map UInt8.ofNat).toArray⟩
def kOf:Nat->Option IntKind
 | 0=>some .i8|1=>some .i16|2=>some .i32|3=>some .i64|4=>some .u8|5=>some .u16|6=>some .u32|7=>some .u64|_=>none
def strOf:Nat->Nat->List UInt8
 | 0,_=>[]
 | f+1,n=>if n<=1 then[] else UInt8.ofNat (n % 256)::strOf f (n / 256)
def qn(x:Ej):Value:=
 match x.2.1 with
 | 0=>Unk.val x.1
 | m+1=>
  match kOf x.1 with
  | some k=>.int k ((m:Int)-x.2.2)
  | none=>match x.1 with
   | 9=>.bool (m==1)
   | _=>.string ⟨(strOf m m).toArray⟩
def rG(b:Bool):∃x,qn x = .bool b:=by
 cases b
 .exact⟨(9,1,0),rfl⟩
 .exact⟨(9,2,0),rfl⟩
def vp(k:Et)(n:Int):∃x,qn x = .int k n:=by
 refine⟨(mo k,n.toNat+1,(-n).toNat),?_⟩;have h:kOf (mo k)=some k:=by cases k<;>rfl
 simp only[qn,h];congr 1;omega
def ofStr:List UInt8->Nat
 | []=>1
 | b::l=>256*ofStr l+b.toNat
def ma:∀l,1<=ofStr l
 | []=>Lh _
 | b::l=>by have:=ma l;simp only[ofStr];omega
def X2:∀(l:List UInt8) (f:Nat),ofStr l<=f->strOf f (ofStr l)=l
 | [],f,h=>by cases f<;>simp[strOf,ofStr]
 | b::l,f,h=>by
  have h1:=ma l;have hb:=b.toNat_lt
  cases f with
  | zero=>simp only[ofStr]at h;omega
  | succ f=>
   simp only[ofStr]at h ⊢;have c:(256*ofStr l+b.toNat) % 256=b.toNat:=by omega
   have a:(256*ofStr l+b.toNat) / 256=ofStr l:=by omega
   rw[strOf,O I,c,a,X2 l f I];simp
def vo(s:Ee):∃x,qn x = .string s:=by
 refine⟨(8,ofStr s.data.toList+1,0),?_⟩;simp only[qn,kOf];rw[X2 _ _ (Lh _)]
def ep(x:Ej):JJ (qn x)=true:=by
 unfold qn;split
 .exact Unk.plain _
 .split
  .rfl
  .split<;>rfl
def rF(g n:Nat):qn (g,0,n)=Unk.val g:=rfl
def sOf(v:Ei):ByteArray:=match v with|.string s=>s|_=>.empty
def sW(v:Ei):Nat:=match v with|.int _ n=>n.toNat|_=>0
mutual
def J(β:Inj):G->Value
 | .bool b=>.bool b
 | .int k n=>.int k n
 | .str s=>.string (str s)
 | .nilp=>.pointer none
 | .ptr b off=>.pointer (some (β.addr b off))
 | .nilslice=>.slice none 0 0
 | .slice b off l c ex=>.slice (some (β.addr b off)) l (if ex then c else c+β.ext b)
 | .nilmap=>.map none
 | .map r=>.map (some (β.blk r))
 | .fn f l m=>.func (.func f) (K β l).toArray (K β m).toArray
 | .yieldf l=>.func (.yield (β.blk l)) #[] #[]
 | .capv b c=>.int .i64 ((c+β.ext b:Nat):Int)
 | .nilfn=>.nilFunc
 | .iface t v=>.iface t (J β v)
 | .niliface=>.nilIface
 | .agg l=>.agg (K β l).toArray
 | .tuple l=>.tuple (K β l).toArray
 | .sym i=>qn ((β i).getD (0,0,0))
 | .esl b o q=>.slice (some (if β.ext b=0 then β.addr b o else β.addr b q)) 0 (β.ext b)
 | .osl b v=>.slice (some (β.addr b 0)) (sOf (J β v)).size (β.ext b)
 | .psl b o q c ex=>.slice (some (β.addr b o)) (sW (qn ((β q).getD (0,0,0)))) (if ex then c else c+β.ext b)
def K(β:Inj):List G->List Value
 | []=>[]
 | v::l=>J β v::K β l
end
mutual
def WF(β:Inj):G->Prop
 | .str s=>∀b∈s,b<256
 | .ptr b _=>(β b).isSome
 | .slice b _ l c _=>(β b).isSome/\l<=c
 | .map r=>(β r).isSome
 | .fn _ l m=>WFs β l/\WFs β m
 | .yieldf l=>(β l).isSome
 | .capv b _=>(β b).isSome
 | .iface _ v=>WF β v
 | .agg l=>WFs β l
 | .tuple l=>WFs β l
 | .sym i=>(β i).isSome
 | .esl b _ _=>(β b).isSome
 | .osl b v=>(β b).isSome/\WF β v/\∃s,J β v = .string s/\s.size<=β.ext b
 | .psl b _ q c _=>(β b).isSome/\(β q).isSome/\∃n:Nat,qn ((β q).getD (0,0,0)) = .int .i64 (n:Int)/\n<=c
 | _=>True
def WFs(β:Inj):List G->Prop
 | []=>True
 | v::l=>WF β v/\WFs β l
end
def zC(b:Inj)(l:List G):K b l=l.map (J b):=by
 induction l with
 | nil=>rfl
 | cons a l c=>rw[K,c];rfl
def qb(b:Inj)(l:List G):WFs b l↔∀v∈l,WF b v:=by
 induction l with
 | nil=>simp[WFs]
 | cons a l c=>rw[WFs,c];simp
def Inj.le(β β':Inj):Prop:=∀id x,β id=some x->β' id=some x
def Inj.le.refl(a:Inj):a.le a:=λ_ _ h=>h
def Inj.le.trans{a b c:Inj}(h:a.le b)(k:b.le c):a.le c:=λ_ _ e=>k _ _ (h _ _ e)
def Inj.le.some{g β':Inj}(h:g.le β')(hb:(g b).isSome):β' b=g b:=by
 obtain⟨x,hx⟩:=LM.1 hb;rw[hx];exact h _ _ hx
mutual
def WF.mono{β β':Inj}(h:β.le β'):∀v,WF β v->WF β' v/\J β' v=J β v
 | .bool _,_=>⟨trivial,rfl⟩
 | .int _ _,_=>⟨trivial,rfl⟩
 | .str _,w=>⟨by simpa[WF] using w,rfl⟩
 | .nilp,_=>⟨trivial,rfl⟩
 | .ptr b _,w=>by
  simp only[WF]at w ⊢;have e:=h.some w
  exact⟨e ▸ w,by simp[J,Inj.addr,Inj.blk,Inj.sh,e]⟩
 | .nilslice,_=>⟨trivial,rfl⟩
 | .slice b _ _ _ _,w=>by
  simp only[WF]at w ⊢;have e:=h.some w.1
  exact⟨⟨e ▸ w.1,w.2⟩,by simp[J,Inj.addr,Inj.blk,Inj.sh,Inj.ext,e]⟩
 | .nilmap,_=>⟨trivial,rfl⟩
 | .map r,w=>by
  simp only[WF]at w ⊢;have e:=h.some w
  exact⟨e ▸ w,by simp[J,Inj.blk,e]⟩
 | .fn f l m,w=>by
  simp only[WF]at w ⊢;obtain⟨d,a⟩:=WFs.mono h l w.1;obtain⟨z,y⟩:=WFs.mono h m w.2
  exact⟨⟨d,z⟩,by simp[J,a,y]⟩
 | .yieldf l,w=>by
  simp only[WF]at w ⊢;have e:=h.some w
  exact⟨e ▸ w,by simp[J,Inj.blk,e]⟩
 | .capv b _,w=>by
  simp only[WF]at w ⊢;have e:=h.some w
  exact⟨e ▸ w,by simp[J,Inj.ext,e]⟩
 | .nilfn,_=>⟨trivial,rfl⟩
 | .iface t v,w=>by
  simp only[WF]at w ⊢;obtain⟨d,a⟩:=WF.mono h v w
  exact⟨d,by simp[J,a]⟩
 | .niliface,_=>⟨trivial,rfl⟩
 | .agg l,w=>by
  simp only[WF]at w ⊢;obtain⟨d,a⟩:=WFs.mono h l w
  exact⟨d,by simp[J,a]⟩
 | .tuple l,w=>by
  simp only[WF]at w ⊢;obtain⟨d,a⟩:=WFs.mono h l w
  exact⟨d,by simp[J,a]⟩
 | .sym i,w=>by
  simp only[WF]at w ⊢;have e:=h.some w
  exact⟨e ▸ w,by simp[J,e]⟩
 | .esl b _ _,w=>by
  simp only[WF]at w ⊢;have e:=h.some w;have g:β'.ext b=β.ext b:=by simp[Inj.ext,e]
  have k:∀o,β'.addr b o=β.addr b o:=λo=>by simp[Inj.addr,Inj.blk,Inj.sh,e]
  exact⟨e ▸ w,by simp only[J,g,k]⟩
 | .osl b v,w=>by
  simp only[WF]at w ⊢;obtain⟨j,w2,s,u,p⟩:=w;have e:=h.some j;have g:β'.ext b=β.ext b:=by simp[Inj.ext,e]
  have k:∀o,β'.addr b o=β.addr b o:=λo=>by simp[Inj.addr,Inj.blk,Inj.sh,e]
  obtain⟨d,a⟩:=WF.mono h v w2
  exact⟨⟨e ▸ j,d,s,by rw[a];exact u,by rw[g];exact p⟩,by simp only[J,g,k,a]⟩
 | .psl b o q c x,w=>by
  simp only[WF]at w ⊢;obtain⟨j,w2,n,u,p⟩:=w;have e:=h.some j;have f:=h.some w2;have g:β'.ext b=β.ext b:=by simp[Inj.ext,e]
  have k:∀o,β'.addr b o=β.addr b o:=λo=>by simp[Inj.addr,Inj.blk,Inj.sh,e]
  exact⟨⟨e ▸ j,f ▸ w2,n,by rw[f];exact u,p⟩,by simp only[J,g,k,f]⟩
def WFs.mono{β β':Inj}(h:β.le β'):∀l,WFs β l->WFs β' l/\K β' l=K β l
 | [],_=>⟨trivial,rfl⟩
 | v::l,w=>by
  simp only[WFs]at w ⊢;obtain⟨d,c⟩:=WF.mono h v w.1;obtain⟨b,a⟩:=WFs.mono h l w.2;exact⟨⟨d,b⟩,by simp[K,c,a]⟩
end
@[simp] theorem XF (β:Inj):J β jo=undef:=by simp[jo,J,K,undef]
@[simp] theorem ziq (β:Inj):WF β jo:=by simp[jo,WF,WFs]
def qS(P:Ef)(t:Eg):Nat:=((P.types[t]?).map (·.size)).getD 0
structure kE(P:Ef)(β:Inj)(t:Eg)(n:Nat)(c:M G)(sh ext:Nat)(arr:Eh)(fz:Nat×Nat):Prop where
 size:sh+n+ext*qS P t<=arr.size
 cell:∀i v,c.get i=some v->WF β v/\arr[sh+i]?=some (J β v)
 thaw:∀i,i<arr.size->¬(fz.1<=i/\i<fz.2)
 al:qS P t ∣ sh
def QW(β:Inj)(e:G×G×Nat):MapEntry:=⟨J β e.1,J β e.2.1,e.2.2⟩
noncomputable def tv(T:M G)(i:Nat):G:=(T.get i).getD jo
def TV(β:Inj)(v:G)(x:Ei):Prop:=cA v=true\/(WF β v/\x=J β v)
def TV.known{g:Inj}{x:Ei}(h:TV g v x)(hv:cA v=false):WF g v/\x=J g v:=by
 rcases h with h|h
 .rw[hv]at h;cases h
 .exact h
structure yH(β:Inj)(n:Nat)(T:M G)(arr:Eh):Prop where
 size:arr.size=n
 tmp:∀i,TV β (tv T i) (arr.getD i undef)
structure Qa(P:Ef)(β:Inj)(k:Et)(t:Eg)(v:G)(sh ext:Nat)(arr:Eh)(fz:Nat×Nat):Prop where
 wf:WF β v
 is:∃s,J β v = .string s/\s.size<=ext
 size:sh+ext<=arr.size
 cell:∀i (b:UInt8),(sOf (J β v)).data[i]?=some b->arr[sh+i]?=some (.int k b.toNat)
 thaw:∀i,i<arr.size->¬(fz.1<=i/\i<fz.2)
 one:qS P t=1
def zO(P:Ef)(β:Inj)(b:X)(x:Ej)(w:Ea):Prop:=
 match b with
 | .cells t n c=>∃arr fz,w.heap[x.1]?=some (.cells arr t fz)/\kE P β t n c x.2.1 x.2.2 arr fz
 | .map es clock=>∃arr,w.heap[x.1]?=some (.map arr clock)/\arr.toList=es.map (QW β)/\∀e∈es,WF β e.2.1/\WF β e.1/\cy e.1=true
 | .loop st pend fn n T ps assign body=>
  ∃tmps defers,w.heap[x.1]?=some (.loop { state:=st,pending:=pend,fn:=fn,tmps:=tmps,params:=ps,assign:=assign,body:=body,defers:=defers })/\yH β n T tmps
 | .siter s pos=>w.heap[x.1]?=some (.stringIter (str s) pos)/\x.2.1=0/\∀b∈s,b<256
 | .text t v=>∃arr fz,w.heap[x.1]?=some (.cells arr t fz)/\Qa P β .u8 t v x.2.1 x.2.2 arr fz
 | .pack t n N=>∃arr fz,w.heap[x.1]?=some (.cells arr t fz)/\kE P β t n (unp n N) x.2.1 x.2.2 arr fz
 | .ints t v=>∃arr fz,w.heap[x.1]?=some (.cells arr t fz)/\Qa P β .i64 t v x.2.1 x.2.2 arr fz
 | .view c=>∃arr t fz,w.heap[x.1]?=some (.cells arr t fz)/\∀i v,c.get i=some v->WF β v/\arr[x.2.1+i]?=some (J β v)
structure Rel(P:Ef)(β:Inj)(H:Heap)(w:Ea):Prop where
 base:100<=H.next
 blk:∀id b x,H.blk.get id=some b->β id=some x->zO P β b x w
 inj:∀id id' b b' x x',H.blk.get id=some b->β id=some x->H.blk.get id'=some b'->β id'=some x'->x.1=x'.1->id=id'\/(id<100/\id'<100)
 bnd:∀id x,β id=some x->id<H.next
 live:∀id b,H.blk.get id=some b->id<H.next
def Rel.QV{g:Inj}(h:Rel P g H w){id:Nat}{b:X}{r:Ej}(hw:100<=id\/100<=n)(h1:H.blk.get id=some b)(h2:g id=some x)
  (h3:H.blk.get n=some b') (h4:g n=some r) (e:x.1=r.1):id=n:=by
 rcases h.inj id n b b' x r h1 h2 h3 h4 e with h|⟨h,h'⟩
 .exact h
 .omega
def bL(β:Inj)(H:Heap)(c:Nat):Prop:=∃id b x,H.blk.get id=some b/\β id=some x/\x.1=c
def Range(β:Inj)(H:Heap)(c:Nat):Prop:=∃id b x,100<=id/\H.blk.get id=some b/\β id=some x/\x.1=c
def Range.all{g:Inj}(h:Range g H c):bL g H c:=by
 obtain⟨i,b,x,_,h⟩:=h;exact⟨i,b,x,h⟩
structure Ext(β:Inj)(H:Heap)(w:Ea)(β':Inj)(H':Heap)(w':Ea):Prop where
 old:∀id,id<H.next->β' id=β id
 next:H.next<=H'.next
 apart:∀id,id<H.next->β id=none->H'.blk.get id=H.blk.get id
 gone:∀id b,id<H.next->H'.blk.get id=some b->∃b',H.blk.get id=some b'
 ro:∀id,id<100->H'.blk.get id=H.blk.get id
 new:∀id x,H.next<=id->β' id=some x->w.heap.size<=x.1\/Range β H x.1
 frame:∀c,c<w.heap.size->¬Range β H c->w'.heap[c]?=w.heap[c]?
 size:w.heap.size<=w'.heap.size
 tape:w'.tape=w.tape
 os:w'.os=w.os
 output:w'.output=w.output
def Ext.refl(a:Inj)(H:Heap)(w:Ea)(hb:∀id x,a id=some x->id<H.next):Ext a H w a H w where
 old:=λ_ _=>rfl
 next:=Lh _
 apart:=λ_ _ _=>rfl
 gone:=λ_ b _ h=>⟨b,h⟩
 ro:=λ_ _=>rfl
 new:=λid x h e=>Ld (hb _ _ e) I
 frame:=λ_ _ _=>rfl
 size:=Lh _
 tape:=rfl
 os:=rfl
 output:=rfl
def Ext.le{g β':Inj}(h:Ext g H w β' H' w')(hb:∀id x,g id=some x->id<H.next):g.le β':=
 λid x e=>by rw[h.old id (hb _ _ e)];exact e
def Ext.trans{g β' β'':Inj}{j:Heap}{u:Ea}(h:Ext g H w β' H' w')(k:Ext β' H' w' β'' j u):Ext g H w β'' j u where
 old:=λid hid=>by rw[k.old id (LK hid h.next),h.old id hid]
 next:=Lj h.next k.next
 apart:=λid hid e=>by rw[k.apart id (LK hid h.next) (by rw[h.old id hid];exact e),h.apart id hid e]
 gone:=λid b hid e=>by
  obtain⟨b',f⟩:=k.gone id b (LK hid h.next) e;exact h.gone id b' hid f
 ro:=λid hid=>(k.ro id hid).trans (h.ro id hid)
 new:=λid x hid e=>by
  have aux:∀c,Range β' H' c->w.heap.size<=c\/Range g H c:=by
   rintro c ⟨i,b,y,n,m,d,rfl⟩
   by_cases hi:i<H.next
   .obtain⟨b',f⟩:=h.gone i b hi m;exact .inr ⟨i,b',y,n,f,by rw[<- h.old i hi];exact d,rfl⟩
   .exact h.new i y I d
  by_cases hi:id<H'.next
  .exact h.new id x hid (by rw[<- k.old id hi];exact e)
  .rcases k.new id x I e with hs|a
   .exact .inl (Lj h.size hs)
   .exact aux _ a
 frame:=λc hc a=>by
  rw[k.frame c (LK hc h.size) ?_,h.frame c hc a];rintro⟨i,b,y,n,m,d,rfl⟩;by_cases hi:i<H.next
  .obtain⟨b',f⟩:=h.gone i b hi m;exact a ⟨i,b',y,n,f,by rw[<- h.old i hi];exact d,rfl⟩
  .rcases h.new i y I d with hs|l
   .omega
   .exact a l
 size:=Lj h.size k.size
 tape:=k.tape.trans h.tape
 os:=k.os.trans h.os
 output:=k.output.trans h.output
end
section
variable[Unk]
def TV.mono{β β':Inj}{x:Ei}(h:TV β v x)(l:β.le β'):TV β' v x:=by
 rcases h with h|⟨a,b⟩
 .exact .inl h
 .obtain⟨c,d⟩:=WF.mono l _ a;exact .inr ⟨c,by rw[b,d]⟩
def yH.mono{β β':Inj}{T:M G}(h:yH β n T arr)(l:β.le β'):yH β' n T arr where
 size:=h.size
 tmp:=λi=>(h.tmp i).mono l
def kE.mono{β β':Inj}{c:M G}{sh ext:Nat}
  (h:kE P β t n c sh ext arr fz) (l:β.le β'):kE P β' t n c sh ext arr fz where
 size:=h.size
 cell:=λi v e=>by
  obtain⟨a,b⟩:=h.cell i v e;obtain⟨c,d⟩:=WF.mono l _ a;exact⟨c,by rw[b,d]⟩
 thaw:=h.thaw
 al:=h.al
def kE.bytes{g β':Inj}{m N:Nat}{sh ext:Nat}(h:kE P g t n (unp m N) sh ext arr fz):kE P β' t n (unp m N) sh ext arr fz where
 size:=h.size
 cell:=λi v e=>by
  obtain⟨_,b⟩:=h.cell i v e;rw[Yh]at e;split at e
  .cases e;exact⟨trivial,b⟩
  .cases e
 thaw:=h.thaw
 al:=h.al
def Qa.mono{β β':Inj}{k:Et}{sh ext:Nat}(h:Qa P β k t v sh ext arr fz)(l:β.le β'):Qa P β' k t v sh ext arr fz:=by
 obtain⟨a,b⟩:=WF.mono l _ h.wf;exact⟨a,by rw[b];exact h.is,h.size,by rw[b];exact h.cell,h.thaw,h.one⟩
def gp{g β':Inj}(l:g.le β')(e:G×G×Nat)(w:WF g e.2.1)(k:WF g e.1):QW β' e=QW g e:=by
 obtain⟨_,d⟩:=WF.mono l _ w;obtain⟨_,a⟩:=WF.mono l _ k;simp[QW,d,a]
def fy{β β':Inj}(h:kN v=true)(w:WF β v):WF β' v/\J β' v=J β v:=by
 cases v<;>first|exact⟨w,rfl⟩|cases h
def cr{β β':Inj}:∀ {l:List G},l.all kN=true->WFs β l->WFs β' l/\K β' l=K β l
 | [],_,_=>⟨trivial,rfl⟩
 | v::l,h,w=>by
  rw[all_cons,Le]at h;obtain⟨d,c⟩:=fy (β':=β') h.1 w.1;obtain⟨b,a⟩:=cr h.2 w.2;exact⟨⟨d,b⟩,by rw[K,K,c,a]⟩
def YS{β β':Inj}(h:cy v=true)(w:WF β v):WF β' v/\J β' v=J β v:=by
 cases v
 case agg l=>
  have h:l.all kN=true:=by have h:Jb kN l=true:=h;rwa[Z9]at h
  obtain⟨b,a⟩:=cr (β':=β') h w;exact⟨b,by rw[J,J,a]⟩
 all_goals exact fy h w
def zO.mono{β β':Inj}{b:X}(h:zO P β b x w)(l:β.le β'):zO P β' b x w:=by
 cases b with
 | cells t n c=>obtain⟨arr,fz,h1,h2⟩:=h;exact⟨arr,fz,h1,h2.mono l⟩
 | map es clock=>
  obtain⟨arr,h1,h2,h3⟩:=h;refine⟨arr,h1,?_,λe he=>⟨(WF.mono l _ (h3 e he).1).1,(WF.mono l _ (h3 e he).2.1).1,(h3 e he).2.2⟩⟩;rw[h2]
  exact(Ab λe he=>gp l e (h3 e he).1 (h3 e he).2.1).symm
 | loop st a fn n T j assign body=>obtain⟨tmps,d,h1,h2⟩:=h;exact⟨tmps,d,h1,h2.mono l⟩
 | siter s p=>exact h
 | text t v=>obtain⟨arr,fz,h1,h2⟩:=h;exact⟨arr,fz,h1,h2.mono l⟩
 | pack t n N=>obtain⟨arr,fz,h1,h2⟩:=h;exact⟨arr,fz,h1,h2.mono l⟩
 | ints t v=>obtain⟨arr,fz,h1,h2⟩:=h;exact⟨arr,fz,h1,h2.mono l⟩
 | view c=>
  obtain⟨arr,t,fz,h1,h2⟩:=h;refine⟨arr,t,fz,h1,λi v hv=>?_⟩;obtain⟨g,f⟩:=WF.mono l v (h2 i v hv).1;exact⟨g,by rw[f];exact(h2 i v hv).2⟩
theorem zO.heap{P:Ef}{g:Inj}{b:X}{x:Ej}{w w':Ea}(h:zO P g b x w)(e:w'.heap[x.1]?=w.heap[x.1]?):zO P g b x w':=by
 cases b<;>simpa only[zO,e] using h
def zO.lt{g:Inj}{b:X}(h:zO P g b x w):x.1<w.heap.size:=by
 cases b with
 | cells t n c=>obtain⟨arr,fz,h1,h2⟩:=h;exact(LO.1 h1).1
 | map es clock=>obtain⟨arr,h1,h2⟩:=h;exact(LO.1 h1).1
 | loop st a fn n T e assign body=>obtain⟨tmps,d,h1,h2⟩:=h;exact(LO.1 h1).1
 | siter s p=>exact(LO.1 h.1).1
 | text t v=>obtain⟨arr,fz,h1,h2⟩:=h;exact(LO.1 h1).1
 | pack t n N=>obtain⟨arr,fz,h1,h2⟩:=h;exact(LO.1 h1).1
 | ints t v=>obtain⟨arr,fz,h1,h2⟩:=h;exact(LO.1 h1).1
 | view c=>obtain⟨arr,t,fz,h1,h2⟩:=h;exact(LO.1 h1).1
structure Alike(w w':Ea):Prop where
 heap:w'.heap=w.heap
 tape:w'.tape=w.tape
 os:w'.os=w.os
 output:w'.output=w.output
def Rel.alike{g:Inj}(h:Rel P g H w)(e:Alike w w'):Rel P g H w' where
 blk:=λid b x h1 h2=>(h.blk id b x h1 h2).heap (by rw[e.heap])
 base:=h.base
 inj:=h.inj
 bnd:=h.bnd
 live:=h.live
def Ext.alike{g:Inj}(hb:∀id x,g id=some x->id<H.next)(e:Alike w w'):Ext g H w g H w' where
 old:=λ_ _=>rfl
 next:=Lh _
 apart:=λ_ _ _=>rfl
 gone:=λ_ b _ h=>⟨b,h⟩
 ro:=λ_ _=>rfl
 new:=λid x h e=>Ld (hb _ _ e) I
 frame:=λ_ _ _=>by rw[e.heap]
 size:=by rw[e.heap];exact Lh _
 tape:=e.tape
 os:=e.os
 output:=e.output
def zO.Jl{g:Inj}{b:X}(h:zO P g b x w)(e:∀c,c<w.heap.size->w'.heap[c]?=w.heap[c]?):zO P g b x w':=h.heap (e _ h.lt)
structure J1(c:Nat)(w w':Ea):Prop where
 other:∀k,k≠c->w'.heap[k]?=w.heap[k]?
 size:w'.heap.size=w.heap.size
 tape:w'.tape=w.tape
 os:w'.os=w.os
 output:w'.output=w.output
def J1.refl(c:Nat)(w:Ea):J1 c w w:=⟨λ_ _=>rfl,rfl,rfl,rfl,rfl⟩
def J1.trans{a b d:Ea}(h:J1 c a b)(k:J1 c b d):J1 c a d:=
 ⟨λi hi=>(k.other i hi).trans (h.other i hi),k.size.trans h.size,k.tape.trans h.tape,k.os.trans h.os,k.output.trans h.output⟩
def Rel.KX{g:Inj}(hR:Rel P g H w){id:Nat}{b:X}
  (h60:100<=id) (hb:H.blk.get id=some b) (hx:g id=some x) (ht:J1 x.1 w w') (hr:zO P g b' x w') :
  Rel P g ⟨H.blk.set id b',H.next⟩ w'/\Ext g H w g ⟨H.blk.set id b',H.next⟩ w':=by
 refine⟨⟨hR.base,?_,?_,hR.bnd,?_⟩,⟨λ_ _=>rfl,Lh _,?_,?_,?_,λi y hi e=>Ld (hR.bnd _ _ e) I,?_,by rw[ht.size];exact Lh _,ht.tape,ht.os,ht.output⟩⟩
 .intro i c y h1 h2;rw[M.zN]at h1;by_cases hi:id=i
  .subst hi;rw[Y rfl]at h1;cases h1;rw[hx]at h2;cases h2;exact hr
  .rw[O hi]at h1;refine(hR.blk i c y h1 h2).heap (ht.other _ λe=>hi ?_);exact hR.QV (.inl h60) hb hx h1 h2 e.symm
 .intro i j c d y z h1 h2 h3 l e
  have aux:∀i c,(H.blk.set id b').get i=some c->∃k,H.blk.get i=some k:=by
   intro i c h;rw[M.zN]at h;by_cases hi:id=i
   .exact⟨b,by rw[<- hi];exact hb⟩
   .rw[O hi]at h;exact⟨c,h⟩
  obtain⟨k,f⟩:=aux _ _ h1;obtain⟨m,a⟩:=aux _ _ h3;exact hR.inj _ _ _ _ _ _ f h2 a l e
 .intro i c h;show i<H.next;have h:(H.blk.set id b').get i=some c:=h;rw[M.zN]at h;by_cases hi:id=i
  .subst hi;exact hR.live _ _ hb
  .rw[O hi]at h;exact hR.live _ _ h
 .intro i _ e;show(H.blk.set id b').get i=_;rw[M.zN,O];intro hi;subst hi;rw[hx]at e;cases e
 .intro i c _ h;have h:(H.blk.set id b').get i=some c:=h;rw[M.zN]at h;by_cases hi:id=i
  .exact⟨b,by rw[<- hi];exact hb⟩
  .rw[O hi]at h;exact⟨c,h⟩
 .intro i hi;show(H.blk.set id b').get i=_;rw[M.zN,O I]
 .intro c _ hc;exact ht.other c λe=>hc ⟨id,b,x,h60,hb,hx,e.symm⟩
def Inj.put(β:Inj)(id:Nat)(x:Ej):Inj:=λi=>if i=id then some x else β i
def Inj.yL{g:Inj}{id:Nat}(h:g id=none):g.le (g.put id x):=by
 intro i y e;unfold Inj.put;by_cases hi:i=id
 .subst hi;rw[h]at e;cases e
 .rw[O hi];exact e
def Inj.zS(a:Inj)(id:Nat)(x:Ej):a.put id x id=some x:=by simp[Inj.put]
def Inj.qw(a:Inj){id:Nat}(x:Ej)(h:i≠id):a.put id x i=a i:=by simp[Inj.put,h]
def Rel.fresh{g:Inj}(hR:Rel P g H w){m:Nat}(h:H.next<=m):g m=none:=by
 cases e:g m with
 | none=>rfl
 | some x=>exact Ld (hR.bnd _ _ e) I
def push(w:Ea)(o:Obj):World:={ w with heap:=w.heap.push o }
def Wd(w:Ea)(o:Obj){k:Nat}(h:k<w.heap.size):(push w o).heap[k]?=w.heap[k]?:=by
 show(w.heap.push o)[k]?=_;rw[getElem?_push,O I]
def yN(w:Ea)(o:Obj):(push w o).heap[w.heap.size]?=some o:=by
 show(w.heap.push o)[w.heap.size]?=_;rw[getElem?_push,Y rfl]
def Rel.add{g:Inj}(hR:Rel P g H w)(b':X)(o:Obj)(e:Nat)
  (hr:zO P (g.put H.next (w.heap.size,0,e)) b' (w.heap.size,0,e) (push w o)) :
  Rel P (g.put H.next (w.heap.size,0,e)) ⟨H.blk.set H.next b',H.next+1⟩ (push w o) /\
  Ext g H w (g.put H.next (w.heap.size,0,e)) ⟨H.blk.set H.next b',H.next+1⟩ (push w o):=by
 have m:=hR.fresh (Lh H.next);have hle:=Inj.yL (x:=(w.heap.size,0,e)) m
 have old:∀i y,i≠H.next->g.put H.next (w.heap.size,0,e) i=some y->g i=some y:=λi y hi h=>by
  rw[Inj.qw _ _ hi]at h;exact h
 refine⟨⟨le_succ_of_le hR.base,?_,?_,?_,?_⟩,⟨?_,le_succ _,?_,?_,?_,?_,?_,by simp[push],rfl,rfl,rfl⟩⟩
 .intro i c y h1 h2;have h1:(H.blk.set H.next b').get i=some c:=h1;rw[M.zN]at h1;by_cases hi:H.next=i
  .subst hi;rw[Y rfl]at h1;cases h1;rw[Inj.zS]at h2;cases h2;exact hr
  .rw[O hi]at h1;have k:=old i y (λe=>hi e.symm) h2;have:=hR.blk i c y h1 k;exact(this.mono hle).heap (Wd w o this.lt)
 .intro i j c d y z h1 h2 h3 f l;have h1:(H.blk.set H.next b').get i=some c:=h1;have h3:(H.blk.set H.next b').get j=some d:=h3;rw[M.zN]at h1 h3;by_cases hi:H.next=i
  .by_cases a:H.next=j
   .omega
   .rw[O a]at h3;have:=(hR.blk j d z h3 (old j z (λe=>a e.symm) f)).lt;subst hi;rw[Inj.zS]at h2;cases h2;simp at l;omega
  .rw[O hi]at h1;by_cases a:H.next=j
   .have:=(hR.blk i c y h1 (old i y (λe=>hi e.symm) h2)).lt;subst a;rw[Inj.zS]at f;cases f;simp at l;omega
   .rw[O a]at h3;exact hR.inj _ _ _ _ _ _ h1 (old i y (λe=>hi e.symm) h2) h3 (old j z (λe=>a e.symm) f) l
 .intro i y h;show i<H.next+1;by_cases hi:i=H.next
  .omega
  .have:=hR.bnd _ _ (old i y hi h);omega
 .intro i c h;show i<H.next+1;have h:(H.blk.set H.next b').get i=some c:=h;rw[M.zN]at h;by_cases hi:H.next=i
  .omega
  .rw[O hi]at h;have:=hR.live _ _ h;omega
 .intro i hi;exact Inj.qw _ _ I
 .intro i hi _;show(H.blk.set H.next b').get i=_;rw[M.zN,O I]
 .intro i c hi h;have h:(H.blk.set H.next b').get i=some c:=h;rw[M.zN,O I]at h;exact⟨c,h⟩
 .intro i hi;have:=hR.base;show(H.blk.set H.next b').get i=_;rw[M.zN,O I]
 .intro i y hi h;by_cases b:i=H.next
  .subst b;rw[Inj.zS]at h;cases h;exact .inl (Lh _)
  .exact Ld (hR.bnd _ _ (old i y b h)) I
 .intro c hc _;exact Wd w o hc
def Rel.del{g:Inj}(hR:Rel P g H w){id:Nat}(h60:100<=id)(hx:g id=some x) :
  Rel P g ⟨H.blk.del id,H.next⟩ w/\Ext g H w g ⟨H.blk.del id,H.next⟩ w:=by
 have aux:∀i c,(H.blk.del id).get i=some c->H.blk.get i=some c:=by
  intro i c h;rw[M.jv]at h;by_cases hi:id=i
  .rw[Y hi]at h;cases h
  .rw[O hi]at h;exact h
 refine⟨⟨hR.base,λi c y h1 h2=>hR.blk i c y (aux _ _ h1) h2,λi j c d y z h1 h2 h3 a e=>hR.inj _ _ _ _ _ _ (aux _ _ h1) h2 (aux _ _ h3) a e,hR.bnd,λi c h=>hR.live _ _ (aux _ _ h)⟩,
  ⟨λ_ _=>rfl,Lh _,?_,λi c _ h=>⟨c,aux _ _ h⟩,λi hi=>(by show(H.blk.del id).get i=_;rw[M.jv,O I]),λi y hi e=>Ld (hR.bnd _ _ e) I,λ_ _ _=>rfl,Lh _,rfl,rfl,rfl⟩⟩
 intro i _ e;show(H.blk.del id).get i=_;rw[M.jv,O];intro hi;subst hi;rw[hx]at e;cases e
def Rel.rename{g:Inj}(hR:Rel P g H w){id:Nat}{b:X}{y:Ej}
  (h60:100<=id) (hb:H.blk.get id=some b) (hx:g id=some x) (hy:y.1=x.1) (ht:J1 x.1 w w') (hr:zO P (g.put H.next y) b' y w') :
  Rel P (g.put H.next y) ⟨(H.blk.del id).set H.next b',H.next+1⟩ w'/\Ext g H w (g.put H.next y) ⟨(H.blk.del id).set H.next b',H.next+1⟩ w':=by
 have n:=hR.fresh (Lh H.next);have hid:=hR.live _ _ hb;have hle:=Inj.yL (x:=y) n
 have old:∀i z,i≠H.next->g.put H.next y i=some z->g i=some z:=λi z hi h=>by
  rw[Inj.qw _ _ hi]at h;exact h
 have aux:∀i c,((H.blk.del id).set H.next b').get i=some c->i≠H.next->i≠id/\H.blk.get i=some c:=by
  intro i c h hi;rw[M.zN,O (λe=>hi e.symm),M.jv]at h;by_cases a:id=i
  .rw[Y a]at h;cases h
  .rw[O a]at h;exact⟨λe=>a e.symm,h⟩
 have self:∀c,((H.blk.del id).set H.next b').get H.next=some c->c=b':=by
  intro c h;rw[M.zN,Y rfl]at h;cases h;rfl
 refine⟨⟨le_succ_of_le hR.base,?_,?_,?_,?_⟩,⟨?_,le_succ _,?_,?_,?_,?_,?_,by rw[ht.size];exact Lh _,ht.tape,ht.os,ht.output⟩⟩
 .intro i c z h1 h2;by_cases hi:i=H.next
  .subst hi;cases self _ h1;rw[Inj.zS]at h2;cases h2;exact hr
  .obtain⟨h3,f⟩:=aux i c h1 hi;have l:=old i z hi h2;have:=hR.blk i c z f l;refine(this.mono hle).heap (ht.other _ λe=>h3 ?_);exact hR.QV (.inr h60) f l hb hx e
 .intro i j c d z u h1 h2 h3 f e;by_cases hi:i=H.next
  .by_cases k:j=H.next
   .omega
   .obtain⟨l,m⟩:=aux j d h3 k;subst hi;rw[Inj.zS]at h2;cases h2;exact Ld (hR.QV (.inr h60) m (old j u k f) hb hx (by rw[<- e,hy])) l
  .obtain⟨l,m⟩:=aux i c h1 hi;by_cases k:j=H.next
   .subst k;rw[Inj.zS]at f;cases f;exact Ld (hR.QV (.inr h60) m (old i z hi h2) hb hx (by rw[e,hy])) l
   .obtain⟨r,p⟩:=aux j d h3 k;exact hR.inj _ _ _ _ _ _ m (old i z hi h2) p (old j u k f) e
 .intro i z h;show i<H.next+1;by_cases hi:i=H.next
  .omega
  .have:=hR.bnd _ _ (old i z hi h);omega
 .intro i c h;show i<H.next+1;by_cases hi:i=H.next
  .omega
  .have:=hR.live _ _ (aux i c h hi).2;omega
 .intro i hi;exact Inj.qw _ _ I
 .intro i hi e;show((H.blk.del id).set H.next b').get i=_;rw[M.zN,O I,M.jv,O];intro a;subst a;rw[hx]at e;cases e
 .intro i c hi h;exact⟨c,(aux i c h I).2⟩
 .intro i hi;have:=hR.base;show((H.blk.del id).set H.next b').get i=_;rw[M.zN,O I,M.jv,O I]
 .intro i z hi h;by_cases a:i=H.next
  .subst a;rw[Inj.zS]at h;cases h;exact .inr ⟨id,b,x,h60,hb,hx,hy.symm⟩
  .exact Ld (hR.bnd _ _ (old i z a h)) I
 .intro c _ hc;exact ht.other c λe=>hc ⟨id,b,x,h60,hb,hx,e.symm⟩
end
section
variable[Unk]
structure yF(E:Env):Prop where
 types:∀t,E.types.get t=E.P.types[t]?
 funcs:∀f,E.funcs.get f=E.P.funcs[f]?
def M8(P:Ef)(s:List (FuncId×Spec))(b:List Fact)(a:List (Nat×X)):yF (Qm P s b a) where
 types:=λt=>by show(M.ofList P.types.toList).get t=_;rw[M.qy];simp[Qm]
 funcs:=λt=>by show(M.ofList P.funcs.toList).get t=_;rw[M.qy];simp[Qm]
def kK:∀(l:List (Nat×X)) (id:Nat) (b:X),(jj l).get id=some b->(id,b)∈l:=by
 intro l
 induction l with
 | nil=>intro id b h;rw[show jj [] = .nil from rfl,M.get_nil]at h;cases h
 | cons p l a=>
  intro id b h;rw[show jj (p::l)=(jj l).set p.1 p.2 from rfl,M.zN]at h;by_cases hi:p.1=id
  .rw[Y hi]at h;cases h;subst hi;exact LG
  .rw[O hi]at h;exact LP _ (a id b h)
def vm:∀(l:List (Nat×X)) (p:Nat×X),p∈l->∃b,(jj l).get p.1=some b:=by
 intro l
 induction l with
 | nil=>intro p h;cases h
 | cons q l a=>
  intro p h;rw[show jj (q::l)=(jj l).set q.1 q.2 from rfl,M.zN];by_cases hi:q.1=p.1
  .exact⟨_,by rw[Y hi]⟩
  .rw[O hi];rcases Lf.1 h with rfl|h
   .exact Ld rfl hi
   .exact a p h
structure Grown(w w':Ea):Prop where
 old:∀c,c<w.heap.size->w'.heap[c]?=w.heap[c]?
 size:w.heap.size<=w'.heap.size
 tape:w'.tape=w.tape
 os:w'.os=w.os
 output:w'.output=w.output
def Rel.Um{g:Inj}(h:Rel P g H w)(e:Grown w w'):Rel P g H w' where
 blk:=λid b x h1 h2=>(h.blk id b x h1 h2).Jl e.old
 base:=h.base
 inj:=h.inj
 bnd:=h.bnd
 live:=h.live
def Ext.Um{g:Inj}(hb:∀id x,g id=some x->id<H.next)(e:Grown w w'):Ext g H w g H w' where
 old:=λ_ _=>rfl
 next:=Lh _
 apart:=λ_ _ _=>rfl
 gone:=λ_ b _ h=>⟨b,h⟩
 ro:=λ_ _=>rfl
 new:=λid x h e=>Ld (hb _ _ e) I
 frame:=λc hc _=>e.old c hc
 size:=e.size
 tape:=e.tape
 os:=e.os
 output:=e.output
def zdu(x:Ei):Bool:=match x with|.nilIface=>false|.agg _=>false|_=>true
def ql(P:Ef)(tabs:List (Nat×X))(w:Ea):Prop:=∃β:Inj,(∀g,g<100->β g=some (Unk.place g))/\∀p∈tabs,zO P β p.2 (Unk.place p.1) w
structure Made(P:Ef)(β:Inj)(N n:Nat)(rows:List (Nat×X))(γ:Inj)(w w2:Ea):Prop where
 low:∀id,id<N->∀x,γ id=some x->β id=some x
 high:∀id,N+n<=id->γ id=none
 new:∀id x,N<=id->γ id=some x->w.heap.size<=x.1
 blk:∀p∈rows,∀x,γ p.1=some x->zO P γ p.2 x w2
 inj:∀p∈rows,∀q∈rows,∀x y,γ p.1=some x->γ q.1=some y->x.1=y.1->p.1=q.1
def Sa(β:Inj)(w:Ea)(p:G)(x:Ei):Prop:=
 match Q2 p with
 | none=>WF β p/\x=J β p
 | some q=>WF β q.2/\∃s b o cap,J β q.2 = .string s/\x = .slice (some ⟨b,o,none⟩) s.size cap/\s.size<=cap/\∀i (c:UInt8),s.data[i]?=some c->w.cell? ⟨b,o+i,none⟩=some (.int .u8 c.toNat)
def Bt(β:Inj)(w:Ea):List G->List Value->Prop
 | [],[]=>True
 | p::l,x::m=>Sa β w p x/\Bt β w l m
 | _,_=>False
def RN(P:Ef)(b:X):Prop:=∀(β β':Inj) (x:Ej) (w:Ea),(∀g,g<100->β g=some (Unk.place g))->(∀g,g<100->β' g=some (Unk.place g))->zO P β b x w->zO P β' b x w
def yW(P:Ef)(tabs:List (Nat×X))(β:Inj)(f:Eu)(args:List G)(nx:Nat)(rin rout:List (Nat×X))(r:G)(n:Nat):Prop:=
 ∀β' H w,β.le β'->Rel P β' H w->(∀g,g<100->β' g=some (Unk.place g))->(∀p∈tabs,p.1<100/\H.blk.get p.1=some p.2)->H.next=nx->(∀p∈rin,H.blk.get p.1=some p.2)->WFs β' args ->
  Calls P f (K β' args).toArray w λe w2=>∃γ,e = .returned (J γ r)/\WF γ r/\Rel P γ (ZV H rin rout n) w2/\Ext β' H w γ (ZV H rin rout n) w2
def Q3(P:Ef)(tabs:List (Nat×X))(β:Inj)(f:Eu)(args:List G)(r:G):Prop:=
 WFs β args/\WF β r/\∀w,ql P tabs w->Calls P f (K β args).toArray w λe w2=>e = .returned (J β r)/\Grown w w2
def Qe(P:Ef)(tabs:List (Nat×X))(β:Inj)(f:Eu)(args:List G)(N n:Nat)(rows:List (Nat×X))(r:G):Prop:=
 WFs β args/\(∀p∈rows,N<=p.1/\p.1<N+n/\(yC p.2).isNone=true)/\∀w,ql P tabs w->Calls P f (K β args).toArray w λe w2=>Grown w w2/\∃γ,e = .returned (J γ r)/\WF γ r/\Made P β N n rows γ w w2
def Q3.mono{tabs:List (Nat×X)}{β β':Inj}(l:β.le β'){f:Eu}(h:Q3 P tabs β f as r):Q3 P tabs β' f as r:=by
 obtain⟨h1,h2,h3⟩:=h;obtain⟨d,c⟩:=WFs.mono l _ h1;obtain⟨b,a⟩:=WF.mono l _ h2;exact⟨d,b,by rw[c,a];exact h3⟩
def Qe.mono{tabs:List (Nat×X)}{β β':Inj}(l:β.le β'){f:Eu}{N:Nat}{rows:List (Nat×X)}(h:Qe P tabs β f as N n rows r):Qe P tabs β' f as N n rows r:=by
 obtain⟨h1,h2,h3⟩:=h;obtain⟨d,c⟩:=WFs.mono l _ h1;refine⟨d,h2,λw hw=>?_⟩;rw[c]
 exact(h3 w hw).mono λe w2 hx=>by
  obtain⟨g,γ,b,a,m⟩:=hx;exact⟨g,γ,b,a,⟨λid hid x hx=>l _ _ (m.low id hid x hx),m.high,m.new,m.blk,m.inj⟩⟩
def Qg(P:Ef)(β:Inj)(op:BinOp)(a b r:G):Prop:=WF β a/\WF β b/\WF β r/\zdu (J β a)=true/\∀t w,(Go.binOp op t (J β a) (J β b)).run P w = .ok (J β r) w
def bK(P:Ef)(β:Inj)(op:UnOp)(a r:G):Prop:=WF β a/\WF β r/\∀w,(Op.unary op (J β a)).run P w = .ok (J β r) w
def Qg.mono{β β':Inj}(l:β.le β'){op:BinOp}{b:G}(h:Qg P β op a b r):Qg P β' op a b r:=by
 obtain⟨h1,h2,h3,g,f⟩:=h;obtain⟨k,c⟩:=WF.mono l _ h1;obtain⟨j,i⟩:=WF.mono l _ h2;obtain⟨e,d⟩:=WF.mono l _ h3;exact⟨k,j,e,by rw[c];exact g,by rw[c,i,d];exact f⟩
def bK.mono{β β':Inj}(l:β.le β'){op:UnOp}(h:bK P β op a r):bK P β' op a r:=by
 obtain⟨h1,h2,h3⟩:=h;obtain⟨e,d⟩:=WF.mono l _ h1;obtain⟨c,b⟩:=WF.mono l _ h2;exact⟨e,c,by rw[d,b];exact h3⟩
def zu(P:Ef)(tabs:List (Nat×X))(β:Inj):Fact->Prop
 | .bin op a b r=>Qg P β op a b r
 | .eq sh a b r=>WF β a/\WF β b/\((sh=1/\∃k m n,J β a = .int k m/\J β b = .int k n/\r=(m==n))\/(sh=2/\∃s t,J β a = .string s/\J β b = .string t/\r=decide (s=t))\/(sh=3/\∃s t:Bool,J β a = .bool s/\J β b = .bool t/\r=(s==t)))
 | .conv k a r=>WF β a/\WF β r/\∃j n,J β a = .int j n/\J β r = .int k (k.wrap n)
 | .len a r=>WF β a/\WF β r/\∃s,J β a = .string s/\J β r = .int .i64 (s.size:Nat)
 | .min a b r=>WF β a/\WF β b/\WF β r/\∃k m n,J β a = .int k m/\J β b = .int k n/\J β r = .int k (if n<m then n else m)
 | .max a b r=>WF β a/\WF β b/\WF β r/\∃k m n,J β a = .int k m/\J β b = .int k n/\J β r = .int k (if m<n then n else m)
 | .sub a lo hi r=>WF β a/\WF β lo/\WF β hi/\WF β r/\∃s j l k h,J β a = .string s/\J β lo = .int j (Int.ofNat l)/\J β hi = .int k (Int.ofNat h)/\l<=h/\h<=s.size/\J β r = .string (s.extract l h)
 | .call f args r=>Q3 P tabs β f args r
 | .make f args N n rows r=>Qe P tabs β f args N n rows r
 | .callF g=>∀f args r,g f args=some r->Q3 P tabs β f args r
 | .makeF g=>∀f args x,g f args=some x->Qe P tabs β f args x.1 x.2.1 x.2.2.1 x.2.2.2
 | .binF g=>∀op a b r,g op a b=some r->Qg P β op a b r
 | .unF g=>∀op a r,g op a=some r->bK P β op a r
 | .at_ a i r=>WF β a/\WF β r/\∃s b,J β a = .string s/\s.data[i]?=some b/\J β r = .int .u8 b.toNat
 | .pack l r=>WFs β l/\WF β r/\∃s,J β r = .string s/\K β l=s.data.toList.map λb=>Value.int .u8 b.toNat
 | .read f args r=>WF β r/\∀w vs β',β.le β'->ql P tabs w->Bt β' w args vs->Calls P f vs.toArray w λe w2=>e = .returned (J β r)/\Grown w w2
 | .memo f args nx rin rout r n=>yW P tabs β f args nx rin rout r n
 | .num q lo hi=>WF β (.sym q)/\∃n:Nat,J β (.sym q) = .int .i64 (n:Int)/\lo<=n/\n<=hi
 | .diff q m r=>WF β (.sym q)/\WF β (.sym r)/\∃n:Nat,J β (.sym q) = .int .i64 (n:Int)/\m<=n/\J β (.sym r) = .int .i64 ((n-m:Nat):Int)
 | .slen a r=>WF β a/\WF β r/\∃p n c,J β a = .slice p n c/\J β r = .int .i64 (n:Nat)
 | .ssub a h r=>WF β a/\WF β h/\WF β r/\∃p n c j k,J β a = .slice p n c/\J β h = .int j (Int.ofNat k)/\k<=c/\J β r = .slice p k c
 | .memoG f N _ args nx rin rout r n=>∃β0:Inj,β0.le β/\(∀id,N<=id->β0 id=none)/\yW P tabs β0 f args nx rin rout r n/\(∀t,∀p∈rin,(qf rin t).get p.1=some p.2) /\
  (∀p∈rout,N<=p.1/\(yC p.2).isNone=true)/\(∀t,∀p∈rout,(qf rout t).get p.1=some p.2)/\∀p∈tabs,RN P p.2/\(jj tabs).get p.1=some p.2
def zu.mono{tabs:List (Nat×X)}{β β':Inj}(l:β.le β')(h:zu P tabs β f):zu P tabs β' f:=by
 cases f with
 | bin op a b r=>
  obtain⟨h1,h2,h3,p,y⟩:=h;obtain⟨d,c⟩:=WF.mono l _ h1;obtain⟨j,e⟩:=WF.mono l _ h2;obtain⟨u,t⟩:=WF.mono l _ h3
  exact⟨d,j,u,by rw[c];exact p,by rw[c,e,t];exact y⟩
 | eq sh a b r=>
  obtain⟨h1,h2,h3⟩:=h;obtain⟨d,c⟩:=WF.mono l _ h1;obtain⟨j,e⟩:=WF.mono l _ h2
  exact⟨d,j,by rw[c,e];exact h3⟩
 | conv k a r=>
  obtain⟨h1,h2,h3⟩:=h;obtain⟨d,c⟩:=WF.mono l _ h1;obtain⟨j,e⟩:=WF.mono l _ h2
  exact⟨d,j,by rw[c,e];exact h3⟩
 | len a r=>
  obtain⟨h1,h2,h3⟩:=h;obtain⟨d,c⟩:=WF.mono l _ h1;obtain⟨j,e⟩:=WF.mono l _ h2
  exact⟨d,j,by rw[c,e];exact h3⟩
 | min a b r=>
  obtain⟨h1,h2,h3,p⟩:=h;obtain⟨d,c⟩:=WF.mono l _ h1;obtain⟨j,e⟩:=WF.mono l _ h2;obtain⟨u,t⟩:=WF.mono l _ h3
  exact⟨d,j,u,by rw[c,e,t];exact p⟩
 | max a b r=>
  obtain⟨h1,h2,h3,p⟩:=h;obtain⟨d,c⟩:=WF.mono l _ h1;obtain⟨j,e⟩:=WF.mono l _ h2;obtain⟨u,t⟩:=WF.mono l _ h3
  exact⟨d,j,u,by rw[c,e,t];exact p⟩
 | sub a lo hi r=>
  obtain⟨h1,h2,h3,p,y⟩:=h;obtain⟨d,c⟩:=WF.mono l _ h1;obtain⟨j,e⟩:=WF.mono l _ h2;obtain⟨c1,c2⟩:=WF.mono l _ h3;obtain⟨u,t⟩:=WF.mono l _ p
  exact⟨d,j,c1,u,by rw[c,e,c2,t];exact y⟩
 | call f as r=>exact Q3.mono l h
 | callF g=>exact λf args r v=>(h f args r v).mono l
 | binF g=>exact λop a b r v=>(h op a b r v).mono l
 | unF g=>exact λop a r v=>(h op a r v).mono l
 | makeF g=>exact λf args x v=>(h f args x v).mono l
 | at_ a i r=>
  obtain⟨h1,h2,h3⟩:=h;obtain⟨d,c⟩:=WF.mono l _ h1;obtain⟨j,e⟩:=WF.mono l _ h2
  exact⟨d,j,by rw[c,e];exact h3⟩
 | pack as r=>
  obtain⟨h1,h2,h3⟩:=h;obtain⟨d,c⟩:=WFs.mono l _ h1;obtain⟨j,e⟩:=WF.mono l _ h2
  exact⟨d,j,by rw[c,e];exact h3⟩
 | read f as r=>
  obtain⟨h1,h2⟩:=h;obtain⟨d,c⟩:=WF.mono l _ h1;refine⟨d,λw Q β2 l2=>?_⟩;rw[c]
  exact h2 w Q β2 (λid x hx=>l2 id x (l id x hx))
 | num q lo hi=>
  obtain⟨h1,n,h2,h3⟩:=h;obtain⟨d,c⟩:=WF.mono l _ h1
  exact⟨d,n,by rw[c];exact h2,h3⟩
 | diff q m r=>
  obtain⟨h1,h2,n,h3,p,y⟩:=h;obtain⟨d,c⟩:=WF.mono l _ h1;obtain⟨j,e⟩:=WF.mono l _ h2
  exact⟨d,j,n,by rw[c];exact h3,p,by rw[e];exact y⟩
 | slen a r=>
  obtain⟨h1,h2,h3⟩:=h;obtain⟨d,c⟩:=WF.mono l _ h1;obtain⟨j,e⟩:=WF.mono l _ h2
  exact⟨d,j,by rw[c,e];exact h3⟩
 | ssub a h' r=>
  obtain⟨h1,h2,h3,p⟩:=h;obtain⟨d,c⟩:=WF.mono l _ h1;obtain⟨j,e⟩:=WF.mono l _ h2;obtain⟨u,t⟩:=WF.mono l _ h3
  exact⟨d,j,u,by rw[c,e,t];exact p⟩
 | memoG f N z args nx rin rout r n=>
  obtain⟨β0,h1,h2⟩:=h
  exact⟨β0,λid x hx=>l id x (h1 id x hx),h2⟩
 | memo f as nx rin rout r n=>exact λβ2 H w h2=>h β2 H w (λid x hx=>h2 id x (l id x hx))
 | make f as N n rows r=>exact Qe.mono l h
def zJ(E:Env)(β:Inj):Prop:=∀f∈E.facts,zu E.P E.tabs β f
def zJ.mono{E:Env}{β β':Inj}(l:β.le β')(h:zJ E β):zJ E β':=λf a=>(h f a).mono l
def qD{a:Type}{p:Fact->Option a}:∀ {l:List Fact}{r:a},findF p l=some r->∃f∈l,p f=some r:=by
 intro l
 induction l with
 | nil=>intro r h;cases h
 | cons f l b=>
  intro r h;have h:Z (p f) (findF p l) some=some r:=h
  cases hp:p f with
  | none=>
   rw[hp]at h;obtain⟨g,c,e⟩:=b h
   exact⟨g,LP _ c,e⟩
  | some q=>
   rw[hp]at h;exact⟨f,LG,by rw[hp];exact h⟩
def Ve{tabs:List (Nat×X)}{d:Inj}{op:BinOp}{b:G}(h:fx op a b f=some r)(c:zu P tabs d f):Qg P d op a b r:=by
 cases f<;>simp only[fx]at h<;>first|(cases h;done)|skip
 case bin o x y q=>
  obtain⟨h1,h⟩:=zh h;simp only[zl,Le,zA,Ll]at h1;obtain⟨j,i,e⟩:=h1;cases h;have c:Qg P d o x y r:=c;rw[zV _ _ i,zV _ _ e];have:op=o:=by cases op<;>cases o<;>first|rfl|(cases j;done)
  rw[this];exact c
 case binF g=>exact c op a b r h
def Ng{tabs:List (Nat×X)}{b:Inj}{op:UnOp}(h:mUn op a f=some r)(c:zu P tabs b f):bK P b op a r:=by
 cases f<;>simp only[mUn]at h<;>first|(cases h;done)|skip
 case unF g=>exact c op a r h
def wK{sh:Nat}{b:G}{r:Bool}(h:mEq sh a b f=some r):f = .eq sh a b r:=by
 cases f<;>simp only[mEq]at h<;>first|(cases h;done)|skip
 obtain⟨h1,h⟩:=zh h;simp only[zl,Le,zA,Ll]at h1;obtain⟨e,d,c⟩:=h1;cases h;rw[zV _ _ d,zV _ _ c,e]
def Nt{k:Et}(h:Nu k a f=some r):f = .conv k a r:=by
 cases f<;>simp only[Nu]at h<;>first|(cases h;done)|skip
 obtain⟨h1,h⟩:=zh h;simp only[zl,Le]at h1;obtain⟨c,b⟩:=h1;cases h;rw[zV _ _ b,(Xs _ _).1 c]
def Vd(h:iN a f=some r):f = .len a r:=by
 cases f<;>simp only[iN]at h<;>first|(cases h;done)|skip
 obtain⟨h1,h⟩:=zh h;cases h;rw[zV _ _ h1]
def Nk(h:Nl a f=some r):f = .slen a r:=by
 cases f<;>simp only[Nl]at h<;>first|(cases h;done)|skip
 obtain⟨h1,h⟩:=zh h;cases h;rw[zV _ _ h1]
def Ni{b:G}(h:Nj a b f=some r):f = .ssub a b r:=by
 cases f<;>simp only[Nj]at h<;>first|(cases h;done)|skip
 obtain⟨h1,h⟩:=zh h;simp only[zl,Le]at h1;obtain⟨d,c⟩:=h1;cases h;rw[zV _ _ d,zV _ _ c]
def Ts{b:G}(h:zdM a b f=some r):f = .min a b r:=by
 cases f<;>simp only[zdM]at h<;>first|(cases h;done)|skip
 obtain⟨h1,h⟩:=zh h;simp only[zl,Le]at h1;obtain⟨d,c⟩:=h1;cases h;rw[zV _ _ d,zV _ _ c]
def Tt{b:G}(h:zdN a b f=some r):f = .max a b r:=by
 cases f<;>simp only[zdN]at h<;>first|(cases h;done)|skip
 obtain⟨h1,h⟩:=zh h;simp only[zl,Le]at h1;obtain⟨d,c⟩:=h1;cases h;rw[zV _ _ d,zV _ _ c]
def Tq{l h':G}(h:Nh a l h' f=some r):f = .sub a l h' r:=by
 cases f<;>simp only[Nh]at h<;>first|(cases h;done)|skip
 obtain⟨h1,h⟩:=zh h;simp only[zl,Le]at h1;obtain⟨d,c,b⟩:=h1;cases h;rw[zV _ _ d,zV _ _ c,zV _ _ b]
def zdO(h:mAt a i f=some r):f = .at_ a i r:=by
 cases f<;>simp only[mAt]at h<;>first|(cases h;done)|skip
 obtain⟨h1,h⟩:=zh h;simp only[zl,Le,zA,Ll]at h1;obtain⟨c,b⟩:=h1;cases h;rw[zV _ _ c,b]
def No{l:List G}(h:CG l f=some r):f = .pack l r:=by
 cases f<;>simp only[CG]at h<;>first|(cases h;done)|skip
 obtain⟨h1,h⟩:=zh h;cases h;rw[j5 _ _ h1]
def Nv{tabs:List (Nat×X)}{a:Inj}{g:Eu}(h:tf g as f=some r)(b:zu P tabs a f):Q3 P tabs a g as r:=by
 cases f<;>simp only[tf]at h<;>first|(cases h;done)|exact b _ _ _ h|skip
 obtain⟨h1,h⟩:=zh h;simp only[zl,Le,zA,Ll]at h1;obtain⟨d,c⟩:=h1;cases h;rw[j5 _ _ c,d];exact b
def Nr{tabs:List (Nat×X)}{a:Inj}{g:Eu}{r:Nat×Nat×List (Nat×X)×G}(h:td g as f=some r)(b:zu P tabs a f):Qe P tabs a g as r.1 r.2.1 r.2.2.1 r.2.2.2:=by
 cases f<;>simp only[td]at h<;>first|(cases h;done)|exact b _ _ _ h|skip
 obtain⟨h1,h⟩:=zh h;simp only[zl,Le,zA,Ll]at h1;obtain⟨d,c⟩:=h1;cases h;rw[j5 _ _ c,d];exact b
section
variable{E:Env}(hE:yF E)
include hE
theorem dB{i:TypeInfo}(h:E.types.get t=some i):E.P.info? t=some i:=by
 rw[hE.types]at h
 have:t<E.P.types.size:=by
  rcases LD t E.P.types.size with h'|h'
  .exact h'
  .rw[Array.getElem?_eq_none h']at h;cases h
 unfold Tables.info?;rw[Y this];exact h
theorem yE{d:Es}(h:E.desc t=some d):E.P.underlying t=some d:=by
 unfold Env.desc at h;obtain⟨i,hi,h⟩:=D h;have h1:=dB hE hi;unfold Program.underlying;rw[h1];unfold descOf at h;obtain⟨desc,p,m,l,k,g,f,e,c,b⟩:=i
 cases desc with
 | named n u=>
  obtain⟨j,a,h⟩:=D h;cases h
  simp[dB hE a]
 | _=>simpa using h
theorem zr{d:Es}(h:E.desc t=some d)(w:Ea):(underlying t).run E.P w = .ok d w:=by
 simp[underlying,yE hE h]
theorem QI(h:E.size t=some n):∃i,E.P.info? t=some i/\E.types.get t=some i/\i.size=n/\qS E.P t=n:=by
 unfold Env.size at h;obtain⟨i,hi,h⟩:=D h;cases h;refine⟨i,dB hE hi,hi,rfl,?_⟩;unfold qS;rw[<- hE.types,hi];rfl
theorem yJ{i:TypeInfo}(h:E.types.get t=some i)(w:Ea):(typeInfo t).run E.P w = .ok i w:=by
 simp[typeInfo,dB hE h]
theorem qK(h:E.size t=some n)(w:Ea):(sizeOf t).run E.P w = .ok n w:=by
 obtain⟨i,h1,h2,h3,_⟩:=QI hE h;simp[sizeOf,typeInfo,h1,h3]
theorem lE{g:Bool}(h:E.isAgg t=some g)(w:Ea):(isAgg t).run E.P w = .ok g w:=by
 unfold Env.isAgg at h;obtain⟨d,hd,h⟩:=D h;cases h;unfold isAgg;rw[Lg,zr hE hd];cases d<;>simp[zii]
end
def Df{r:Row}(h:H.zbg b=some r):H.blk.get b=some (.cells r.t r.n r.c):=by
 unfold Heap.zbg at h;obtain⟨k,a,h⟩:=D h;cases k<;>cases h;exact a
def JG{r:Row}(h:H.row b=some r):∃a,H.blk.get b=some a/\Ri a=some r:=by
 unfold Heap.row at h;obtain⟨k,c,h⟩:=D h;exact⟨k,c,h⟩
def bE{a:X}{r:Row}(h:Ri a=some r){g:Inj}:zO P g a x w↔zO P g (.cells r.t r.n r.c) x w:=by
 cases a<;>cases h<;>exact Iff.rfl
def Inj.jS(a:Inj)(b off j:Nat):(a.addr b off).add j=a.addr b (off+j):=by
 unfold Addr.add Inj.addr;by_cases h:j=0
 .simp[h]
 .simp[h,AU]
def Vt{b:X}{q:TypeId×G}(h:bD b=some q):b = .text q.1 q.2:=by cases b<;>cases h;rfl
def Rel.vl{g:Inj}(hR:Rel P g H w)(h:H.blk.get b=some (.text t v))(hb:(g b).isSome) :
  ∃arr fz,w.heap[g.blk b]?=some (.cells arr t fz)/\Qa P g .u8 t v (g.sh b) (g.ext b) arr fz:=by
 obtain⟨x,hx⟩:=LM.1 hb;obtain⟨arr,fz,h1,h2⟩:=hR.blk b _ x h hx;refine⟨arr,fz,?_,?_⟩
 .simpa[Inj.blk,hx] using h1
 .simpa[Inj.sh,Inj.ext,hx] using h2
def Rel.rowAt{g:Inj}(hR:Rel P g H w){r:Row}(h:H.row b=some r)(hb:(g b).isSome) :
  ∃arr fz,w.heap[g.blk b]?=some (.cells arr r.t fz)/\kE P g r.t r.n r.c (g.sh b) (g.ext b) arr fz:=by
 obtain⟨x,hx⟩:=LM.1 hb;obtain⟨e,a,d⟩:=JG h;have:=(bE d).1 (hR.blk b _ x a hx);obtain⟨arr,fz,h1,h2⟩:=this;refine⟨arr,fz,?_,?_⟩
 .simpa[Inj.blk,hx] using h1
 .simpa[Inj.sh,Inj.ext,hx] using h2
def cell_of{o:Nat}(h:w.heap[c]?=some (.cells arr t fz)):w.cell? ⟨c,o,none⟩=arr[o]?:=by
 simp[World.cell?,h]
theorem mD{w:Ea}{c o:Nat}{arr:Eh}{t:Eg}{fz:Nat×Nat}(h:w.heap[c]?=some (.cells arr t fz))
  (hf:∀i,i<arr.size->¬(fz.1<=i/\i<fz.2)) (ho:o<arr.size):w.frozen? ⟨c,o,none⟩=false:=by
 have:=hf o ho;simp only[World.frozen?,h];simp only[AG,LH];omega
def vD{o:Nat}(h:w.heap[c]?=some (.cells arr t fz))(v:Ei) :
  (w.setCell ⟨c,o,none⟩ v).heap[c]?=some (.cells (arr.setIfInBounds o v) t fz)/\J1 c w (w.setCell ⟨c,o,none⟩ v):=by
 refine⟨?_,⟨?_,?_,rfl,rfl,rfl⟩⟩
 .simp only[World.setCell,AD,if_true,h];simp
 .intro k a;simp only[World.setCell,AD];rw[O (by simpa using λe=>a e.symm)]
 .simp[World.setCell]
theorem Rel.cell{P:Ef}{g:Inj}{H:Heap}{w:Ea}(hR:Rel P g H w){b off:Nat}{r:Row}{v:G}(h:H.row b=some r)(hb:(g b).isSome)
  (hv:r.c.get off=some v):w.cell? (g.addr b off)=some (J g v)/\WF g v:=by
 obtain⟨arr,fz,h1,h2⟩:=hR.rowAt h hb;obtain⟨a,c⟩:=h2.cell off v hv;exact⟨by rw[Inj.addr,cell_of h1];exact c,a⟩
def Rel.tj{g:Inj}(hR:Rel P g H w)(h:H.tj b off=some v)(hb:(g b).isSome) :
  w.cell? (g.addr b off)=some (J g v)/\WF g v:=by
 unfold Heap.tj at h
 cases a:H.row b with
 | some r=>
  rw[a,ze]at h
  exact hR.cell a hb h
 | none=>
  rw[a,zn]at h;obtain⟨k,d,h⟩:=D h;obtain⟨c,hc,h⟩:=D h;cases k<;>cases hc;obtain⟨x,hx⟩:=LM.1 hb;obtain⟨arr,t,fz,h1,h2⟩:=hR.blk b _ x d hx;obtain⟨h3,e⟩:=h2 off v h;refine⟨?_,h3⟩;have i:g.blk b=x.1:=by simp[Inj.blk,hx]
  have f:g.sh b=x.2.1:=by simp[Inj.sh,hx]
  rw[Inj.addr,i,f,cell_of h1];exact e
def Rel.yl{g:Inj}(hR:Rel P g H w){l:List G}(h:H.yl b off n=some l)(hb:(g b).isSome) :
  l.length=n/\WFs g l/\(loadCells (g.addr b off) n).run P w = .ok (K g l).toArray w:=by
 obtain⟨r,e,h⟩:=D h;obtain⟨h1,h2⟩:=M.jZ _ _ _ _ h
 have h3:∀k v,l[k]?=some v->w.cell? ((g.addr b off).add k)=some (J g v)/\WF g v:=by
  intro k v c;have d:k<n:=by rw[<- h1];exact(LL.1 c).1
  rw[Inj.jS];exact hR.cell e hb (by rw[h2 k d];exact c)
 refine⟨h1,(qb _ _).2 λv hv=>?_,?_⟩
 .obtain⟨k,c⟩:=List.mem_iff_getElem?.1 hv;exact(h3 k v c).2
 .have:=run_loadCells_list (P:=P) (w:=w) (g.addr b off) (K g l) (by
   intro j v a;rw[zC,Lw]at a
   cases hl:l[j]? with
   | none=>rw[hl]at a;cases a
   | some u=>rw[hl]at a;cases a;exact(h3 j u hl).1)
  rwa[zC,Ls,h1,<- zC]at this
section
variable{E:Env}(hE:yF E)
include hE
theorem Rel.loadVar{a:Inj}(hR:Rel E.P a H w)(h:E.loadVar H t b off=some v)(hb:(a b).isSome) :
  WF a v/\(loadVar t (a.addr b off)).run E.P w = .ok (J a v) w:=by
 obtain⟨g,c,h⟩:=D h;unfold Go.loadVar;rw[Lg,lE hE c]
 cases g with
 | true=>
  obtain⟨n,hn,h⟩:=D h;obtain⟨l,hl,h⟩:=D h;cases h;obtain⟨h1,h2,h3⟩:=hR.yl hl hb;refine⟨h2,?_⟩
  simp[qK hE hn,h3,J]
 | false=>
  obtain⟨h1,h2⟩:=hR.tj h hb;refine⟨h2,?_⟩;simp[h1]
end
def nY(a:Inj)(v:G):(J a v).oneCell'=Zh v:=by
 cases v<;>first|rfl|(rename_i i;rw[J];have hp:=ep ((a i).getD (0,0,0));revert hp;cases qn ((a i).getD (0,0,0))<;>intro hp<;>first|rfl|cases hp)
def aP{g:Inj}(h:Zh v=true):(J g v).oneCell'=true:=by rw[nY];exact h
def VU(c o:Nat)(t:Eg)(fz:Nat×Nat):∀(b:Ec) (i:Nat) (w:Ea) (arr:Eh),
  w.heap[c]?=some (.cells arr t fz)->(∀i,i<arr.size->¬(fz.1<=i/\i<fz.2))->o+i+b.length<=arr.size->(∀v∈b,v.oneCell'=true) ->
  ∃w' a,(storeCells ⟨c,o,none⟩ b i).run P w = .ok () w'/\w'.heap[c]?=some (.cells a t fz)/\J1 c w w'/\a.size=arr.size /\
   ∀k,a[k]?=if o+i<=k/\k<o+i+b.length then b[k-(o+i)]? else arr[k]?:=by
 intro b
 induction b with
 | nil=>
  intro i w arr h _ _ _;refine⟨w,arr,by simp[storeCells],h,.refl _ _,rfl,λk=>?_⟩
  rw[O Oc]
 | cons v b l=>
  intro i w arr h d hs hv
  have ha:(⟨c,o,none⟩:Addr).add i=⟨c,o+i,none⟩:=by
   unfold Addr.add;by_cases hi:i=0<;>simp[hi]
  simp only[Am]at hs;obtain⟨s1,s2⟩:=vD (o:=o+i) h v;obtain⟨w',a,j,g,f,e,r5⟩:=l (i+1) (w.setCell ⟨c,o+i,none⟩ v) (arr.setIfInBounds (o+i) v) s1 (by simpa using d) (by simp;omega) (λu m=>hv u (by simp[m]));refine⟨w',a,?_,g,s2.trans f,by simpa using e,λk=>?_⟩
  .rw[storeCells,Lg,ha,run_store _ _ _ _ _ (hv v Oc),cell_of h,Av I];simp only[mD h d (by omega:o+i<arr.size)];exact j
  .rw[r5 k];by_cases h1:o+(i+1)<=k/\k<o+(i+1)+b.length
   .rw[Y h1,Y (by simp;omega)];have:k-(o+i)=(k-(o+(i+1)))+1:=by omega
    rw[this,Ap]
   .rw[O h1,AN];by_cases h2:o+i=k
    .subst h2;simp only[if_true];rw[Y I,Y Oc];simp
    .rw[O h2,O (by simp;omega)]
def Rel.Jz{g:Inj}(hR:Rel P g H w){l:List G}(h:H.Jz b off l=some H')(hb:(g b).isSome)(hl:WFs g l) :
  ∃w',(storeCells (g.addr b off) (K g l)).run P w = .ok () w'/\Rel P g H' w'/\Ext g H w g H' w':=by
 obtain⟨r,k,h⟩:=D h;obtain⟨h1,h⟩:=zh h;cases h;rw[zl,zl,Le,Le,zK,Lk,zK,Lk,jV,Z9]at h1;obtain⟨h60,hn,e⟩:=h1;have hn:off+l.length<=r.n:=hn;obtain⟨arr,fz,g1,a⟩:=hR.rowAt k hb;obtain⟨x,hx⟩:=LM.1 hb;have c:g.blk b=x.1:=by simp[Inj.blk,hx]
 have hs:=a.size
 obtain⟨w',d,y,p,m,j,r5⟩:=VU (P:=P) (g.blk b) (g.sh b+off) r.t fz (K g l) 0 w arr g1 a.thaw
  (by rw[zC,Ls];omega) (by
   intro v hv;rw[zC]at hv;obtain⟨u,z,rfl⟩:=Lv.1 hv
   exact aP (Ad.1 e u z))
 refine⟨w',y,?_⟩;unfold Heap.put;obtain⟨Q,f,_⟩:=JG k;refine hR.KX h60 f hx (by rw[<- c];exact m) ⟨d,fz,by rw[<- c];exact p,⟨?_,?_,?_,by rw[show x.2.1=g.sh b by simp[Inj.sh,hx]];exact a.al⟩⟩
 .have:x.2.1=g.sh b/\x.2.2=g.ext b:=by simp[Inj.sh,Inj.ext,hx]
  rw[this.1,this.2,j];exact a.size
 .intro i v hv;have:x.2.1=g.sh b:=by simp[Inj.sh,hx]
  rw[this,r5,zC,Ls];rw[M.fZ]at hv;by_cases hi:off<=i/\i<off+l.length
  .rw[Y hi]at hv;rw[Y I,Lw];have:g.sh b+i-(g.sh b+off+0)=i-off:=by omega
   rw[this,hv];exact⟨(qb _ _).1 hl v (LX hv),rfl⟩
  .rw[O hi]at hv;rw[O I];exact a.cell i v hv
 .rw[j];exact a.thaw
def jm(a:Inj)(v:G):(J a v).cells=(K a (zU v)).toArray:=by
 cases v
 case sym i=>
  have hc:K a (zU (.sym i))=[J a (.sym i)]:=rfl;have e:J a (.sym i)=qn ((a i).getD (0,0,0)):=by rw[J]
  have hp:=ep ((a i).getD (0,0,0));rw[hc];rw[<- e]at hp;cases h:J a (.sym i)<;>first|rfl|(rw[h]at hp;cases hp)
 all_goals simp[J,Value.cells,zU,K]
section
variable{E:Env}(hE:yF E)
include hE
theorem RL{g:Inj}(h:WF g v):WFs g (zU v):=by
 have _:=hE;cases v<;>first|exact h|exact⟨h,trivial⟩
theorem Rel.storeVar{g:Inj}(hR:Rel E.P g H w)(h:E.storeVar H t b off v=some H')(hb:(g b).isSome)(hv:WF g v) :
  ∃w',(storeVar t (g.addr b off) (J g v)).run E.P w = .ok () w'/\Rel E.P g H' w'/\Ext g H w g H' w':=by
 obtain⟨n,hn,h⟩:=D h;obtain⟨h1,h⟩:=zh h;rw[zA,jV,Ll]at h1;obtain⟨w',d,c,a⟩:=hR.Jz h hb (RL hE hv);refine⟨w',?_,c,a⟩;unfold Go.storeVar;rw[jm];simp[qK hE hn,zC,h1];rw[<- zC];exact d
end
end
end Go.AEv
