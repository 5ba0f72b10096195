/- A verified evaluator of loaded Go code, and its soundness (part EvSa). Conditions: the program fits (no goroutine count, mixed orders). -/
import Derived.Test.YtaffhpgaagnjfaaGreatDoorEvK
import Derived.Laws.Sem
import Derived.Laws.Cells
namespace Go.AEv
universe u v
@[simp] theorem qE {α:Sort u} (t e:α):ifB true t e=t:=rfl
@[simp] theorem ku {α:Sort u} (t e:α):ifB false t e=e:=rfl
theorem zm {α:Sort u} (b:Bool) (t e:α):ifB b t e=if b then t else e:=by cases b<;>rfl
@[simp] theorem zwB {α:Type u}{β:Type v} (f:α→Option β):bnd none f=none:=rfl
@[simp] theorem qn {α:Type u}{β:Type v} (a:α) (f:α→Option β):bnd (some a) f=f a:=rfl
theorem ze {α:Type u}{β:Type v}{x:Option α}{f:α→Option β}{b:β} (h:bnd x f=some b):∃ a,x=some a∧f a=some b:=by
 cases x with
 | none=>cases h
 | some a=>exact ⟨a,rfl,h⟩
@[simp] theorem zn {α:Type u}{β:Sort v} (e:β) (f:α→β):zh none e f=e:=rfl
@[simp] theorem zd {α:Type u}{β:Sort v} (a:α) (e:β) (f:α→β):zh (some a) e f=f a:=rfl
@[simp] theorem zX {α:Sort u} (n:Nat) (f:Nat→α):frc n f=f n:=rfl
@[simp] theorem KC {α:Sort u} (z:α) (s:Nat→α):qP 0 z s=z:=rfl
@[simp] theorem XX {α:Sort u} (n:Nat) (z:α) (s:Nat→α):qP (n+1) z s=s n:=rfl
@[simp] theorem ZL {α:Sort u} (n:Nat) (p q:Nat→α):Zv (.ofNat n) p q=p n:=rfl
@[simp] theorem yd {α:Sort u} (n:Nat) (p q:Nat→α):Zv (.negSucc n) p q=q n:=rfl
@[simp] theorem zee {α:Type u}{β:Sort v} (z:β) (s:α→List α→β):lC [] z s=z:=rfl
@[simp] theorem Zf {α:Type u}{β:Sort v} (a:α) (l:List α) (z:β) (s:α→List α→β):lC (a::l) z s=s a l:=rfl
theorem zk (a b:Bool):zq a b=(a&&b):=by cases a<;>rfl
theorem qy (a:Bool):j8 a = !a:=by cases a<;>rfl
theorem Y1 (a b:Bool):zlB a b=(a==b):=by cases a<;>cases b<;>rfl
theorem zw (a b:Nat):Nat.beq a b=(a==b):=by
 rw [Bool.eq_iff_iff];simp [Nat.beq_eq]
theorem zO (a b:Nat):Nat.blt a b=decide (a<b):=by
 rw [Bool.eq_iff_iff];simp [Nat.blt,Nat.succ_le_iff]
theorem zE (a b:Nat):Nat.ble a b=decide (a≤b):=by
 rw [Bool.eq_iff_iff];simp
theorem zg {α:Type u}{b:Bool}{t:Option α}{a:α} (h:ifB b t none=some a):b=true∧t=some a:=by
 cases b
 ·cases h
 ·exact ⟨rfl,h⟩
theorem yf {α:Type u}{b:Bool}{t:Option α}{a:α} (h:ifB b none t=some a):b=false∧t=some a:=by
 cases b
 ·exact ⟨rfl,h⟩
 ·cases h
theorem zfG:∀ (i j:Nat),path i=path j→i=j:=by
 have key:∀ f i g j,i<f→j<g→Xv f i=Xv g j→i=j:=by
  intro f
  induction f with
  | zero=>intro i g j hi;omega
  | succ f ih=>
   intro i g j hi hj h
   cases g with
   | zero=>omega
   | succ g=>
    have e1:∀ f i,Xv (f+1) i=ifB (Nat.beq i 0) Pa.e (ifB (Nat.beq (Nat.mod i 2) 1) (.o (Xv f (Nat.div i 2))) (.i (Xv f (Nat.pred (Nat.div i 2))))):=fun _ _=>rfl
    rw [e1,e1]at h
    have m1:∀ i,Nat.mod i 2=i % 2:=fun _=>rfl
    have d1:∀ i,Nat.div i 2=i / 2:=fun _=>rfl
    simp only [zm,Nat.beq_eq,m1,d1,Nat.pred_eq_sub_one]at h
    by_cases i0:i=0
    ·by_cases j0:j=0
     ·omega
     ·rw [if_pos i0,if_neg j0]at h
      split at h<;>cases h
    ·rw [if_neg i0]at h
     by_cases j0:j=0
     ·rw [if_pos j0]at h
      split at h<;>cases h
     ·rw [if_neg j0]at h
      by_cases i1:i % 2=1
      ·rw [if_pos i1]at h
       by_cases j1:j % 2=1
       ·rw [if_pos j1]at h
        injection h with h
        have:=ih (i / 2) g (j / 2) (by omega) (by omega) h;omega
       ·rw [if_neg j1]at h;cases h
      ·rw [if_neg i1]at h
       by_cases j1:j % 2=1
       ·rw [if_pos j1]at h;cases h
       ·rw [if_neg j1]at h
        injection h with h
        have:=ih (i / 2-1) g (j / 2-1) (by omega) (by omega) h;omega
 intro i j h
 exact key (i+1) i (j+1) j (by omega) (by omega) h
theorem QX {α:Type} (q:Pa):JH q (Tr.nil:Tr α)=none:=by cases q<;>rfl
theorem WK {α:Type} (l:Tr α) (v:Option α) (r:Tr α):JH .e (.node l v r)=v:=rfl
theorem Qk {α:Type} (p:Pa) (l:Tr α) (v:Option α) (r:Tr α):JH (.o p) (.node l v r)=JH p l:=rfl
theorem Ql {α:Type} (p:Pa) (l:Tr α) (v:Option α) (r:Tr α):JH (.i p) (.node l v r)=JH p r:=rfl
theorem zcK {α:Type} (a:Option α):∀ (p q:Pa) (t:Tr α),JH q (Kt a p t)=if p=q then a else JH q t:=by
 intro p
 induction p with
 | e=>
  intro q t
  cases t with
  | nil=>
   have h:Kt a .e (Tr.nil:Tr α) = .node .nil a .nil:=rfl
   rw [h];cases q<;>simp [WK,Qk,Ql,QX]
  | node l v r=>
   have h:Kt a .e (.node l v r) = .node l a r:=rfl
   rw [h];cases q<;>simp [WK,Qk,Ql]
 | o p ih=>
  intro q t
  cases t with
  | nil=>
   have h:Kt a (.o p) (Tr.nil:Tr α) = .node (Kt a p .nil) none .nil:=rfl
   rw [h];cases q<;>simp [WK,Qk,Ql,QX,ih]
  | node l v r=>
   have h:Kt a (.o p) (.node l v r) = .node (Kt a p l) v r:=rfl
   rw [h];cases q<;>simp [WK,Qk,Ql,ih]
 | i p ih=>
  intro q t
  cases t with
  | nil=>
   have h:Kt a (.i p) (Tr.nil:Tr α) = .node .nil none (Kt a p .nil):=rfl
   rw [h];cases q<;>simp [WK,Qk,Ql,QX,ih]
  | node l v r=>
   have h:Kt a (.i p) (.node l v r) = .node l v (Kt a p r):=rfl
   rw [h];cases q<;>simp [WK,Qk,Ql,ih]
theorem YB (f i:Nat):Xv (f+1) i=ifB (Nat.beq i 0) Pa.e (ifB (Nat.beq (Nat.mod i 2) 1) (.o (Xv f (Nat.div i 2))) (.i (Xv f (Nat.pred (Nat.div i 2))))):=rfl
theorem zaN:∀ f g i,i<f→i<g→Xv f i=Xv g i:=by
 intro f
 induction f with
 | zero=>intro g i h;omega
 | succ f ih=>
  intro g i hf hg
  cases g with
  | zero=>omega
  | succ g=>
   rw [YB,YB]
   by_cases h0:i=0
   ·subst h0;rfl
   ·have hd:Nat.div i 2<i:=Nat.div_lt_self (by omega) (by decide)
    have hp:Nat.pred (Nat.div i 2)<i:=Nat.lt_of_le_of_lt (Nat.pred_le _) hd
    rw [ih g (Nat.div i 2) (by omega) (by omega),ih g (Nat.pred (Nat.div i 2)) (by omega) (by omega)]
theorem zmD (j:Nat):path (2*j+1) = .o (path j):=by
 unfold path
 rw [show Nat.succ (2*j+1)=(2*j+1)+1 from rfl,YB]
 have h0:Nat.beq (2*j+1) 0=false:=rfl
 have h1:Nat.beq (Nat.mod (2*j+1) 2) 1=true:=by
  rw [zw,beq_iff_eq];show (2*j+1) % 2=1;omega
 have h2:Nat.div (2*j+1) 2=j:=by show (2*j+1) / 2=j;omega
 rw [h0,ku,h1,qE,h2,zaN (2*j+1) (Nat.succ j) j (by omega) (by omega)]
theorem zkR (j:Nat):path (2*j+2) = .i (path j):=by
 unfold path
 rw [show Nat.succ (2*j+2)=(2*j+2)+1 from rfl,YB]
 have h0:Nat.beq (2*j+2) 0=false:=rfl
 have h1:Nat.beq (Nat.mod (2*j+2) 2) 1=false:=by
  rw [zw];show ((2*j+2) % 2==1)=false;simp
 have h2:Nat.pred (Nat.div (2*j+2) 2)=j:=by show (2*j+2) / 2-1=j;omega
 rw [h0,ku,h1,ku,h2,zaN (2*j+2) (Nat.succ j) j (by omega) (by omega)]
theorem Z1 {α:Type} (l:Tr α) (v:Option α) (r:Tr α):(Tr.node l v r).get 0=v:=rfl
theorem yh {α:Type} (l:Tr α) (v:Option α) (r:Tr α) (j:Nat):(Tr.node l v r).get (2*j+1)=l.get j:=by
 unfold Tr.get;rw [zmD,Qk]
theorem kv {α:Type} (l:Tr α) (v:Option α) (r:Tr α) (j:Nat):(Tr.node l v r).get (2*j+2)=r.get j:=by
 unfold Tr.get;rw [zkR,Ql]
namespace Tr
variable {α:Type}
theorem zL (t:Tr α) (i j:Nat) (a:α):(t.set i a).get j=if i=j then some a else t.get j:=by
 unfold Tr.set Tr.get
 rw [zcK]
 by_cases h:i=j
 ·simp [h]
 ·rw [if_neg h,if_neg fun e=>h (zfG _ _ e)]
theorem qT (t:Tr α) (i j:Nat):(t.del i).get j=if i=j then none else t.get j:=by
 unfold Tr.del Tr.get
 rw [zcK]
 by_cases h:i=j
 ·simp [h]
 ·rw [if_neg h,if_neg fun e=>h (zfG _ _ e)]
@[simp] theorem get_nil (i:Nat):(Tr.nil:Tr α).get i=none:=by
 unfold Tr.get;cases path i<;>rfl
theorem zdb (l:List α):∀ (t:Tr α) (i j:Nat),(zfw l t i).get j=if i≤j∧j<i+l.length then l[j-i]? else t.get j:=by
 induction l with
 | nil=>intro t i j;rw [if_neg (by simp)];rfl
 | cons a l ih=>
  intro t i j
  have h:zfw (a::l) t i=zfw l (t.set i a) (i+1):=rfl
  rw [h,ih,zL]
  by_cases h1:i+1≤j∧j<i+1+l.length
  ·rw [if_pos h1,if_pos (by simp;omega)]
   have:j-i=(j-(i+1))+1:=by omega
   rw [this,List.getElem?_cons_succ]
  ·rw [if_neg h1]
   by_cases h2:i=j
   ·subst h2;simp
   ·rw [if_neg h2,if_neg (by simp;omega)]
theorem zkk (m:List α):∀ j,(alt m true)[j]? = m[2*j]?∧(alt m false)[j]? = m[2*j+1]?:=by
 induction m with
 | nil=>intro j;exact ⟨by simp [alt],by simp [alt]⟩
 | cons a m ih=>
  have e1:alt (a::m) true=a::alt m false:=rfl
  have e2:alt (a::m) false=alt m true:=rfl
  intro j
  rw [e1,e2]
  refine ⟨?_,?_⟩
  ·cases j with
   | zero=>rfl
   | succ j=>
    rw [List.getElem?_cons_succ,(ih j).2,show 2*(j+1)=(2*j+1)+1 from by omega,List.getElem?_cons_succ]
  ·rw [(ih j).1,List.getElem?_cons_succ]
theorem zi3 (m:List α):(alt m true).length≤m.length∧(alt m false).length≤m.length:=by
 induction m with
 | nil=>exact ⟨Nat.le_refl _,Nat.le_refl _⟩
 | cons a m ih=>
  have e1:alt (a::m) true=a::alt m false:=rfl
  have e2:alt (a::m) false=alt m true:=rfl
  rw [e1,e2,List.length_cons,List.length_cons]
  omega
theorem parts (i:Nat):i=0∨(∃ j,i=2*j+1)∨∃ j,i=2*j+2:=by
 rcases Nat.eq_zero_or_pos i with h | h
 ·exact .inl h
 ·rcases Nat.mod_two_eq_zero_or_one i with h2 | h2
  ·exact .inr (.inr ⟨i / 2-1,by omega⟩)
  ·exact .inr (.inl ⟨i / 2,by omega⟩)
theorem zlk:∀ (f:Nat) (l:List α) (j:Nat),l.length≤f→(build f l).get j=l[j]?:=by
 intro f
 induction f with
 | zero=>
  intro l j h
  cases l with
  | nil=>show (Tr.nil:Tr α).get j=_;rw [get_nil];simp
  | cons a l=>simp at h
 | succ f ih=>
  intro l j h
  cases l with
  | nil=>show (Tr.nil:Tr α).get j=_;rw [get_nil];simp
  | cons a m=>
   have e:build (f+1) (a::m) = .node (build f (alt m true)) (some a) (build f (alt m false)):=rfl
   have hl:=zi3 m
   simp only [List.length_cons]at h
   rw [e]
   rcases parts j with rfl | ⟨k,rfl⟩ | ⟨k,rfl⟩
   ·rw [Z1];rfl
   ·rw [yh,ih _ _ (by omega),(zkk m k).1,List.getElem?_cons_succ]
   ·rw [kv,ih _ _ (by omega),(zkk m k).2,show 2*k+2=(2*k+1)+1 from rfl,List.getElem?_cons_succ]
theorem zga (l:List α):∀ n,qM l n=l.length+n:=by
 induction l with
 | nil=>intro n;show n=_;simp
 | cons a l ih=>intro n;show qM l (n+1)=_;rw [ih];simp;omega
theorem zY (l:List α) (j:Nat):(ofList l).get j=l[j]?:=by
 unfold ofList
 rw [zX,zga,zm]
 split
 ·rw [zdb]
  by_cases h:j<l.length
  ·rw [if_pos (by omega)];simp
  ·rw [if_neg (by omega),get_nil,List.getElem?_eq_none (by omega)]
 ·exact zlk _ _ _ (by omega)
theorem zpu (t:Tr α) (j:Nat):(lft t).get j=t.get (2*j+1):=by
 cases t with
 | nil=>show (Tr.nil:Tr α).get j=_;rw [get_nil,get_nil]
 | node l v r=>rw [yh];rfl
theorem zpt (t:Tr α) (j:Nat):(rgt t).get j=t.get (2*j+2):=by
 cases t with
 | nil=>show (Tr.nil:Tr α).get j=_;rw [get_nil,get_nil]
 | node l v r=>rw [kv];rfl
theorem zps (t:Tr α):top t=t.get 0:=by
 cases t with
 | nil=>rw [get_nil];rfl
 | node l v r=>rfl
theorem znQ (u:Tr α) (lo hi:Nat):∀ (f:Nat) (t:Tr α) (a s:Nat),hi<f+a→0<s→∀ j,(over u lo hi f t a s).get j=if lo≤a+s*j∧a+s*j<hi then u.get (a+s*j-lo) else t.get j:=by
 intro f
 induction f with
 | zero=>
  intro t a s h hs j
  rw [if_neg (by have:a≤a+s*j:=Nat.le_add_right _ _;omega)]
  rfl
 | succ f ih=>
  intro t a s h hs j
  have e:over u lo hi (f+1) t a s=ifB (Nat.ble hi a) t (.node (over u lo hi f (lft t) (a+s) (s+s)) (ifB (Nat.ble lo a) (u.get (a-lo)) (top t)) (over u lo hi f (rgt t) (a+s+s) (s+s))):=rfl
  rw [e,zm,zE]
  by_cases hb:hi≤a
  ·rw [if_pos (decide_eq_true hb),if_neg (by have:a≤a+s*j:=Nat.le_add_right _ _;omega)]
  ·rw [if_neg (by simpa using hb)]
   rcases parts j with rfl | ⟨k,rfl⟩ | ⟨k,rfl⟩
   ·rw [Z1,zm,zE]
    simp only [Nat.mul_zero,Nat.add_zero]
    by_cases hl:lo≤a
    ·rw [if_pos (decide_eq_true hl),if_pos ⟨hl,by omega⟩]
    ·rw [if_neg (by simpa using hl),if_neg (by omega),zps]
   ·have e2:s*(2*k+1)=s+(s+s)*k:=by
     rw [Nat.mul_add,Nat.add_mul,← Nat.mul_assoc,Nat.mul_comm s 2,Nat.mul_one,Nat.two_mul,Nat.add_mul];omega
    rw [yh,ih _ _ _ (by omega) (by omega),zpu,e2,Nat.add_assoc]
   ·have e2:s*(2*k+2)=s+s+(s+s)*k:=by
     rw [Nat.mul_add,Nat.add_mul,← Nat.mul_assoc,Nat.mul_comm s 2,Nat.two_mul,Nat.add_mul];omega
    rw [kv,ih _ _ _ (by omega) (by omega),zpt,e2]
    simp only [Nat.add_assoc]
theorem zbo (l:List α) (t:Tr α) (i j:Nat):(zkD l t i).get j=if i≤j∧j<i+l.length then l[j-i]? else t.get j:=by
 unfold zkD
 rw [zX,zga,zm]
 split
 ·exact zdb l t i j
 ·rw [zX,znQ _ _ _ _ _ _ _ (by omega) (by decide)]
  simp only [Nat.zero_add,Nat.one_mul,Nat.add_zero]
  rw [show Nat.add i l.length=i+l.length from rfl,zY]
theorem zik (n:Nat):∀ (t:Tr α) (i:Nat) (l:List α),ka n t i=some l→l.length=n∧∀ k,k<n→t.get (i+k)=l[k]?:=by
 induction n with
 | zero=>intro t i l h;cases h;exact ⟨rfl,fun k hk=>by omega⟩
 | succ n ih=>
  intro t i l h
  have e:ka (n+1) t i=bnd (t.get i) fun a=>bnd (ka n t (i+1)) fun l=>some (a::l):=rfl
  rw [e]at h
  obtain ⟨a,ha,h⟩:=ze h
  obtain ⟨m,hm,h⟩:=ze h
  cases h
  obtain ⟨h1,h2⟩:=ih _ _ _ hm
  refine ⟨by simp [h1],fun k hk=>?_⟩
  cases k with
  | zero=>simpa using ha
  | succ k=>have:=h2 k (by omega);rw [List.getElem?_cons_succ,← this];congr 1;omega
theorem zli (t:Tr α):∀ (h k i:Nat),ka (h+k) t i=bnd (ka h t i) fun l=>bnd (ka k t (i+h)) fun m=>some (l++m):=by
 intro h
 induction h with
 | zero=>
  intro k i
  rw [Nat.zero_add]
  show _=bnd (ka k t (i+0)) fun m=>some ([]++m)
  rw [Nat.add_zero]
  cases ka k t i<;>rfl
 | succ h ih=>
  intro k i
  rw [show h+1+k=(h+k)+1 from by omega]
  show (bnd (t.get i) fun a=>bnd (ka (h+k) t (i+1)) fun l=>some (a::l))=bnd (bnd (t.get i) fun a=>bnd (ka h t (i+1)) fun l=>some (a::l)) fun l=>bnd (ka k t (i+(h+1))) fun m=>some (l++m)
  rw [ih k (i+1),show i+1+h=i+(h+1) from by omega]
  cases t.get i with
  | none=>rfl
  | some a=>
   show (bnd (bnd (ka h t (i+1)) fun l=>bnd (ka k t (i+(h+1))) fun m=>some (l++m)) fun l=>some (a::l))=bnd (bnd (ka h t (i+1)) fun l=>some (a::l)) fun l=>bnd (ka k t (i+(h+1))) fun m=>some (l++m)
   cases ka h t (i+1) with
   | none=>rfl
   | some l=>
    show (bnd (bnd (ka k t (i+(h+1))) fun m=>some (l++m)) fun l=>some (a::l))=bnd (ka k t (i+(h+1))) fun m=>some (a::l++m)
    cases ka k t (i+(h+1))<;>rfl
theorem zeI (l m:List α):zQ l m=l++m:=by
 induction l with
 | nil=>rfl
 | cons a l ih=>show a::zQ l m=_;rw [ih];rfl
theorem znO (t:Tr α):∀ (f n i:Nat),zgq f n t i=ka n t i:=by
 intro f
 induction f with
 | zero=>intro n i;rfl
 | succ f ih=>
  intro n i
  have e:zgq (f+1) n t i=ifB (Nat.ble n 32) (ka n t i) (bnd (zgq f (n / 2) t i) fun l=>bnd (zgq f (n-n / 2) t (i+n / 2)) fun m=>some (zQ l m)):=rfl
  rw [e,zm]
  split
  ·rfl
  ·rw [ih,ih]
   have h:=zli t (n / 2) (n-n / 2) i
   rw [show n / 2+(n-n / 2)=n from by omega]at h
   rw [h]
   simp only [zeI]
theorem zj0 (n:Nat) (t:Tr α) (i:Nat):Ji n t i=ka n t i:=znO t 20 n i
theorem jq (n:Nat) (t:Tr α) (i:Nat) (l:List α) (h:Ji n t i=some l):l.length=n∧∀ k,k<n→t.get (i+k)=l[k]?:=zik n t i l (by rw [← zj0];exact h)
end Tr
theorem zjN {α:Type} (l:List α):∀ n,qM l n=l.length+n:=by
 induction l with
 | nil=>intro n;show n=_;simp
 | cons a l ih=>intro n;show qM l (n+1)=_;rw [ih];simp;omega
@[simp] theorem jx {α:Type} (l:List α):qM l 0=l.length:=by rw [zjN];rfl
@[simp] theorem zR {α:Type} (l m:List α):zQ l m=l++m:=by
 induction l with
 | nil=>rfl
 | cons a l ih=>show a::zQ l m=_;rw [ih];rfl
@[simp] theorem jk {α β:Type} (f:α→β) (l:List α):mapA f l=l.map f:=by
 induction l with
 | nil=>rfl
 | cons a l ih=>show f a::mapA f l=_;rw [ih];rfl
@[simp] theorem Vl {α:Type} (n:Nat):∀ l:List α,zaq n l=l.take n:=by
 induction n with
 | zero=>intro l;rw [List.take_zero];rfl
 | succ n ih=>intro l;cases l with
  | nil=>rfl
  | cons a l=>show a::zaq n l=_;rw [ih];rfl
@[simp] theorem zbx {α:Type} (n:Nat):∀ l:List α,zdm n l=l.drop n:=by
 induction n with
 | zero=>intro l;rfl
 | succ n ih=>intro l;cases l with
  | nil=>rfl
  | cons a l=>show zdm n l=_;rw [ih];rfl
@[simp] theorem kF {α:Type} (n:Nat):∀ l:List α,kg n l=l[n]?:=by
 induction n with
 | zero=>intro l;cases l<;>rfl
 | succ n ih=>intro l;cases l with
  | nil=>rfl
  | cons a l=>show kg n l=_;rw [ih];rfl
theorem Zp (p:zb→Bool) (l:List zb):Qq p l=l.all p:=by
 induction l with
 | nil=>rfl
 | cons a l ih=>show ifB (p a) (Qq p l) false=_;rw [ih];cases h:p a<;>simp [h]
theorem zjv (z:List zb) (n:Nat):Qy z n=(List.replicate n z).flatten:=by
 induction n with
 | zero=>rfl
 | succ n ih=>show zQ z (Qy z n)=_;rw [ih,zR,List.replicate_succ,List.flatten_cons]
theorem Z0 (a b:Int):KJ a b=(a==b):=by
 cases a<;>cases b<;>simp only [KJ,ZL,yd,zw]<;>rw [Bool.eq_iff_iff]<;>simp<;>omega
theorem kz (a b:Int):ilt a b=decide (a<b):=by
 cases a<;>cases b<;>simp only [ilt,ZL,yd,zO]<;>rw [Bool.eq_iff_iff]<;>simp<;>omega
theorem VI (a:List Nat):∀ b,zcd a b=(a==b):=by
 induction a with
 | nil=>intro b;cases b<;>rfl
 | cons x a ih=>
  intro b
  cases b with
  | nil=>rfl
  | cons y b=>
   show ifB (Nat.beq x y) (zcd a b) false=_
   rw [ih,zw,zm]
   by_cases h:x=y<;>simp [h]
theorem YH (a b:IntKind):znv a b=true↔a=b:=by cases a<;>cases b<;>decide
mutual
theorem zN:∀ (a b:zb),qf a b=true→a=b
 | .bool a,b=>by cases b<;>simp [qf,Y1]
 | .int k a,b=>by
  cases b<;>simp [qf,zk,Z0,YH]
 | .str s,b=>by cases b<;>simp [qf,VI]
 | .nilp,b=>by cases b<;>simp [qf]
 | .ptr x y,b=>by
  cases b<;>simp [qf,zk]
 | .nilslice,b=>by cases b<;>simp [qf]
 | .slice x y z u v,b=>by
  cases b<;>simp [qf,zk,Y1]
 | .nilmap,b=>by cases b<;>simp [qf]
 | .map r,b=>by cases b<;>simp [qf]
 | .fn f l m,b=>by
  cases b<;>simp [qf,zk]
  intro h1 h2 h3;exact ⟨h1,jc _ _ h2,jc _ _ h3⟩
 | .yieldf l,b=>by cases b<;>simp [qf]
 | .capv x y,b=>by
  cases b<;>simp [qf,zk]
 | .nilfn,b=>by cases b<;>simp [qf]
 | .iface t v,b=>by
  cases b<;>simp [qf,zk]
  intro h1 h2;exact ⟨h1,zN _ _ h2⟩
 | .niliface,b=>by cases b<;>simp [qf]
 | .agg l,b=>by
  cases b<;>simp [qf]
  intro h;exact jc _ _ h
 | .tuple l,b=>by
  cases b<;>simp [qf]
  intro h;exact jc _ _ h
 | .sym i,b=>by cases b<;>simp [qf]
 | .esl x y z,b=>by cases b<;>simp [qf,zk]
 | .osl x v,b=>by
  cases b<;>simp [qf,zk]
  intro h1 h2;exact ⟨h1,zN _ _ h2⟩
 | .psl a b c d e,v=>by cases v<;>simp [qf,zk,Y1]
theorem jc:∀ (a b:List zb),j9 a b=true→a=b
 | [],b=>by cases b<;>simp [j9]
 | x::l,b=>by
  cases b with
  | nil=>simp [j9]
  | cons y m=>
   simp [j9,zk]
   intro h1 h2;exact ⟨zN _ _ h1,jc _ _ h2⟩
end
end Go.AEv
namespace Go.AEv
theorem zhm (a k:Nat):Nat.shiftLeft a k=a*2 ^ k:=Nat.shiftLeft_eq a k
theorem zhk (a k:Nat):Nat.shiftRight a k=a / 2 ^ k:=Nat.shiftRight_eq_div_pow a k
theorem jK (N i:Nat):byteOf N i=N / 2 ^ (8*i) % 256:=by
 unfold byteOf
 rw [zhk];rfl
theorem zly (N i:Nat):byteOf N i<256:=by rw [jK];exact Nat.mod_lt _ (by decide)
theorem zjl (N o l:Nat):Yu N o l=N / 2 ^ (8*o) % 2 ^ (8*l):=by
 unfold Yu
 rw [zhk,zhm,Nat.one_mul];rfl
theorem zag (n S M:Nat):KU n S M=S+M*2 ^ (8*n):=by
 unfold KU
 rw [zhm];rfl
theorem Ku {i l:Nat} (h:i≤l):2 ^ (8*l)=2 ^ (8*i)*2 ^ (8*(l-i)):=by
 rw [← Nat.pow_add];congr 1;omega
theorem zn0 {k:Nat} (h:1≤k):256 ∣ 2 ^ (8*k):=by
 have:2 ^ (8*k)=256*2 ^ (8*(k-1)):=by
  rw [show (256:Nat)=2 ^ 8 from rfl,← Nat.pow_add];congr 1;omega
 rw [this];exact Nat.dvd_mul_right _ _
theorem W8 {N o l i:Nat} (h:i<l):byteOf (Yu N o l) i=byteOf N (o+i):=by
 rw [jK,jK,zjl,Ku (Nat.le_of_lt h),Nat.mod_mul_right_div_self,Nat.mod_mod_of_dvd _ (zn0 (by omega)),Nat.div_div_eq_div_mul,← Nat.pow_add]
 congr 3;omega
theorem sub_lt (N o l:Nat):Yu N o l<2 ^ (8*l):=by rw [zjl];exact Nat.mod_lt _ (Nat.pow_pos (by decide))
theorem YZ {n S M i:Nat} (hS:S<2 ^ (8*n)):byteOf (KU n S M) i=if i<n then byteOf S i else byteOf M (i-n):=by
 rw [jK,zag]
 by_cases h:i<n
 ·rw [if_pos h,jK,Ku (Nat.le_of_lt h),Nat.mul_comm M,Nat.mul_assoc,Nat.add_mul_div_left _ _ (Nat.pow_pos (by decide))]
  obtain ⟨k,hk⟩:=zn0 (k:=n-i) (by omega)
  rw [hk,Nat.mul_assoc,Nat.add_mul_mod_self_left]
 ·rw [if_neg h,jK,Ku (show n≤i by omega),← Nat.div_div_eq_div_mul,Nat.add_mul_div_right _ _ (Nat.pow_pos (by decide)),Nat.div_eq_of_lt hS,Nat.zero_add]
theorem W9 (N k i:Nat):byteOf (Nat.shiftRight N (8*k)) i=byteOf N (k+i):=by
 rw [jK,jK,zhk,Nat.div_div_eq_div_mul,← Nat.pow_add]
 congr 3;omega
namespace Tr
variable {α:Type}
theorem znP (f:Nat→α):∀ (d a s n j:Nat),n≤d→(tree f d a s n).get j=if j<n then some (f (a+s*j)) else none:=by
 intro d
 induction d with
 | zero=>
  intro a s n j h
  have:n=0:=by omega
  subst this
  rw [if_neg (by omega)]
  exact get_nil j
 | succ d ih=>
  intro a s n j h
  cases n with
  | zero=>rw [if_neg (by omega)];exact get_nil j
  | succ m=>
   have e:tree f (d+1) a s (m+1) = .node (tree f d (a+s) (s+s) ((m+1) / 2)) (some (f a)) (tree f d (a+s+s) (s+s) (m / 2)):=rfl
   rw [e]
   rcases parts j with rfl | ⟨k,rfl⟩ | ⟨k,rfl⟩
   ·rw [Z1,if_pos (by omega),Nat.mul_zero,Nat.add_zero]
   ·have e2:s*(2*k+1)=s+(s+s)*k:=by
     rw [Nat.mul_add,Nat.add_mul,← Nat.mul_assoc,Nat.mul_comm s 2,Nat.mul_one,Nat.two_mul,Nat.add_mul];omega
    rw [yh,ih _ _ _ _ (by omega),e2,Nat.add_assoc]
    by_cases hk:k<(m+1) / 2
    ·rw [if_pos hk,if_pos (by omega)]
    ·rw [if_neg hk,if_neg (by omega)]
   ·have e2:s*(2*k+2)=s+s+(s+s)*k:=by
     rw [Nat.mul_add,Nat.add_mul,← Nat.mul_assoc,Nat.mul_comm s 2,Nat.two_mul,Nat.add_mul];omega
    rw [kv,ih _ _ _ _ (by omega),e2]
    by_cases hk:k<m / 2
    ·rw [if_pos hk,if_pos (by omega)];simp only [Nat.add_assoc]
    ·rw [if_neg hk,if_neg (by omega)]
end Tr
theorem Jy (n N i:Nat):(unp n N).get i=if i<n then some (.int .u8 (.ofNat (byteOf N i))) else none:=by
 unfold unp
 rw [Tr.znP _ _ _ _ _ _ (Nat.le_refl n)]
 simp only [Nat.zero_add,Nat.one_mul]
 rfl
theorem unp0_get:∀ (n N i:Nat),i<n→(unp0 n N)[i]? = some (byteOf N i)
 | 0,_,_,h=>by omega
 | n+1,N,i,h=>by
  have e:unp0 (n+1) N=(N % 256)::unp0 n (Nat.shiftRight N 8):=rfl
  rw [e]
  cases i with
  | zero=>simp [jK]
  | succ i=>
   rw [List.getElem?_cons_succ,unp0_get n _ i (by omega)]
   have:=W9 N 1 i
   rw [show 8*1=8 from rfl]at this
   rw [this,Nat.add_comm 1 i]
theorem unp0_length:∀ (n N:Nat),(unp0 n N).length=n
 | 0,_=>rfl
 | n+1,N=>by
  have e:unp0 (n+1) N=(N % 256)::unp0 n (Nat.shiftRight N 8):=rfl
  rw [e,List.length_cons,unp0_length n]
theorem unpH_ok:∀ (f n N:Nat),(unpH f n N).length=n∧∀ i,i<n→(unpH f n N)[i]? = some (byteOf N i)
 | 0,n,N=>⟨unp0_length n N,fun i h=>unp0_get n N i h⟩
 | f+1,n,N=>by
  have e:unpH (f+1) n N=ifB (Nat.ble n 8) (unp0 n N) (zQ (unpH f (n / 2) (Yu N 0 (n / 2))) (unpH f (n-n / 2) (Nat.shiftRight N (8*(n / 2))))):=rfl
  rw [e,zm]
  split
  ·exact ⟨unp0_length n N,fun i h=>unp0_get n N i h⟩
  ·obtain ⟨a1,a2⟩:=unpH_ok f (n / 2) (Yu N 0 (n / 2))
   obtain ⟨b1,b2⟩:=unpH_ok f (n-n / 2) (Nat.shiftRight N (8*(n / 2)))
   rw [Tr.zeI]
   refine ⟨by rw [List.length_append,a1,b1];omega,fun i h=>?_⟩
   by_cases hi:i<n / 2
   ·rw [List.getElem?_append_left (by omega),a2 i hi,W8 hi,Nat.zero_add]
   ·rw [List.getElem?_append_right (by omega),a1,b2 _ (by omega),W9]
    congr 2;omega
theorem unpB_eq:∀ (n N:Nat) (r:List Nat),unpB n N r=unp0 n N++r
 | 0,_,_=>rfl
 | n+1,N,r=>by
  have e:unpB (n+1) N r=(N % 256)::unpB n (Nat.shiftRight N 8) r:=rfl
  have e2:unp0 (n+1) N=(N % 256)::unp0 n (Nat.shiftRight N 8):=rfl
  rw [e,e2,unpB_eq n,List.cons_append]
theorem unpA_eq:∀ (f n N:Nat) (r:List Nat),unpA f n N r=unpH f n N++r
 | 0,n,N,r=>unpB_eq n N r
 | f+1,n,N,r=>by
  have e:unpA (f+1) n N r=ifB (Nat.ble n 8) (unpB n N r) (unpA f (n / 2) (Yu N 0 (n / 2)) (unpA f (n-n / 2) (Nat.shiftRight N (8*(n / 2))) r)):=rfl
  have e2:unpH (f+1) n N=ifB (Nat.ble n 8) (unp0 n N) (zQ (unpH f (n / 2) (Yu N 0 (n / 2))) (unpH f (n-n / 2) (Nat.shiftRight N (8*(n / 2))))):=rfl
  rw [e,e2,zm,zm]
  split
  ·exact unpB_eq n N r
  ·rw [unpA_eq f,unpA_eq f,Tr.zeI,List.append_assoc]
theorem unpL_eq (n N:Nat):unpL n N=unpH 20 n N:=by
 unfold unpL
 rw [unpA_eq,List.append_nil]
theorem unpL_length (n N:Nat):(unpL n N).length=n:=by rw [unpL_eq];exact (unpH_ok 20 n N).1
theorem unpL_get {n N i:Nat} (h:i<n):(unpL n N)[i]? = some (byteOf N i):=by rw [unpL_eq];exact (unpH_ok 20 n N).2 i h
theorem unpL_lt (n N:Nat):∀ b∈unpL n N,b<256:=by
 intro b hb
 obtain ⟨i,hi,rfl⟩:=List.getElem_of_mem hb
 rw [unpL_length]at hi
 have:=unpL_get (N:=N) hi
 rw [List.getElem?_eq_getElem (by rw [unpL_length];exact hi)]at this
 rw [Option.some.inj this]
 exact zly _ _
theorem zhM (b:Nat) (l:List Nat) (acc k:Nat):Y5 (b::l) acc k=Y5 l (acc+b*2 ^ k) (k+8):=by
 show Y5 l (Nat.add acc (Nat.shiftLeft b k)) (k+8)=_
 rw [zhm];rfl
theorem zfK:∀ (l:List Nat) (acc n:Nat),(∀ b∈l,b<256)→acc<2 ^ (8*n) →
  Y5 l acc (8*n)<2 ^ (8*(n+l.length))∧∀ i,byteOf (Y5 l acc (8*n)) i=if i<n then byteOf acc i else (l[i-n]?).getD 0
 | [],acc,n,_,ha=>by
  have e:Y5 [] acc (8*n)=acc:=rfl
  rw [e]
  refine ⟨ha,fun i=>?_⟩
  by_cases h:i<n
  ·rw [if_pos h]
  ·rw [if_neg h,jK,Nat.div_eq_of_lt]
   ·rfl
   ·exact Nat.lt_of_lt_of_le ha (Nat.pow_le_pow_right (by decide) (by omega))
 | b::l,acc,n,hl,ha=>by
  have hb:=hl b List.mem_cons_self
  have e1:acc+b*2 ^ (8*n)=KU n acc b:=(zag n acc b).symm
  have hlt:KU n acc b<2 ^ (8*(n+1)):=by
   rw [zag,show 8*(n+1)=8*n+8 from by omega,Nat.pow_add]
   have:b*2 ^ (8*n)≤255*2 ^ (8*n):=Nat.mul_le_mul_right _ (by omega)
   have e:2 ^ (8*n)*2 ^ 8=256*2 ^ (8*n):=by rw [Nat.mul_comm]
   rw [e]
   omega
  rw [zhM,e1,show 8*n+8=8*(n+1) from by omega]
  obtain ⟨h1,h2⟩:=zfK l (KU n acc b) (n+1) (fun x hx=>hl x (List.mem_cons_of_mem _ hx)) hlt
  refine ⟨by rw [List.length_cons,show n+(l.length+1)=n+1+l.length from by omega];exact h1,fun i=>?_⟩
  rw [h2,YZ ha]
  by_cases h:i<n
  ·rw [if_pos (by omega),if_pos h,if_pos h]
  ·by_cases h3:i=n
   ·subst h3
    rw [if_pos (by omega),if_neg h,if_neg h,Nat.sub_self]
    simp [jK,Nat.mod_eq_of_lt hb]
   ·rw [if_neg (by omega),if_neg h,show i-n=(i-(n+1))+1 from by omega,List.getElem?_cons_succ]
end Go.AEv
namespace Go.AEv
set_option linter.unusedSectionVars false
def QW (v:Value):Bool:=match v with | .agg _=>false | .tuple _=>false | _=>true
class Unk where
 val:Nat→Value
 plain:∀ i,QW (val i)=true
 place:Nat→Nat×Nat×Nat
 glob:∀ g,g<60→place g=(g,0,0)
variable [Unk]
abbrev Inj:=Nat→Option (Nat×Nat×Nat)
def Inj.blk (β:Inj) (b:Nat):Nat:=((β b).getD (0,0,0)).1
def Inj.sh (β:Inj) (b:Nat):Nat:=((β b).getD (0,0,0)).2.1
def Inj.ext (β:Inj) (b:Nat):Nat:=((β b).getD (0,0,0)).2.2
def Inj.addr (β:Inj) (b off:Nat):Addr:=⟨β.blk b,β.sh b+off,none⟩
def str (s:List Nat):ByteArray:=⟨(s.map UInt8.ofNat).toArray⟩
def kOf:Nat→Option IntKind
 | 0=>some .i8 | 1=>some .i16 | 2=>some .i32 | 3=>some .i64 | 4=>some .u8 | 5=>some .u16 | 6=>some .u32 | 7=>some .u64 | _=>none
def strOf:Nat→Nat→List UInt8
 | 0,_=>[]
 | f+1,n=>if n≤1 then [] else UInt8.ofNat (n % 256)::strOf f (n / 256)
def zW (x:Nat×Nat×Nat):Value:=
 match x.2.1 with
 | 0=>Unk.val x.1
 | m+1=>
  match kOf x.1 with
  | some k=>.int k ((m:Int)-x.2.2)
  | none=>match x.1 with
   | 9=>.bool (m==1)
   | _=>.string ⟨(strOf m m).toArray⟩
theorem zfg (b:Bool):∃ x,zW x = .bool b:=by
 cases b
 ·exact ⟨(9,1,0),rfl⟩
 ·exact ⟨(9,2,0),rfl⟩
theorem zhd (k:IntKind) (n:Int):∃ x,zW x = .int k n:=by
 refine ⟨(zcZ k,n.toNat+1,(-n).toNat),?_⟩
 have h:kOf (zcZ k)=some k:=by cases k<;>rfl
 simp only [zW,h]
 congr 1
 omega
def ofStr:List UInt8→Nat
 | []=>1
 | b::l=>256*ofStr l+b.toNat
theorem zcU:∀ l,1≤ofStr l
 | []=>Nat.le_refl _
 | b::l=>by have:=zcU l;simp only [ofStr];omega
theorem Xk:∀ (l:List UInt8) (f:Nat),ofStr l≤f→strOf f (ofStr l)=l
 | [],f,h=>by cases f<;>simp [strOf,ofStr]
 | b::l,f,h=>by
  have h1:=zcU l
  have hb:=b.toNat_lt
  cases f with
  | zero=>simp only [ofStr]at h;omega
  | succ f=>
   simp only [ofStr]at h ⊢
   have e1:(256*ofStr l+b.toNat) % 256=b.toNat:=by omega
   have e2:(256*ofStr l+b.toNat) / 256=ofStr l:=by omega
   rw [strOf,if_neg (by omega),e1,e2,Xk l f (by omega)]
   simp
theorem zhc (s:ByteArray):∃ x,zW x = .string s:=by
 refine ⟨(8,ofStr s.data.toList+1,0),?_⟩
 simp only [zW,kOf]
 rw [Xk _ _ (Nat.le_refl _)]
theorem zat (x:Nat×Nat×Nat):QW (zW x)=true:=by
 unfold zW
 split
 ·exact Unk.plain _
 ·split
  ·rfl
  ·split<;>rfl
theorem zff (g n:Nat):zW (g,0,n)=Unk.val g:=rfl
def sOf (v:Value):ByteArray:=match v with | .string s=>s | _=>.empty
def zfT (v:Value):Nat:=match v with | .int _ n=>n.toNat | _=>0
mutual
def zc (β:Inj):zb→Value
 | .bool b=>.bool b
 | .int k n=>.int k n
 | .str s=>.string (str s)
 | .nilp=>.pointer none
 | .ptr b off=>.pointer (some (β.addr b off))
 | .nilslice=>.slice none 0 0
 | .slice b off l c ex=>.slice (some (β.addr b off)) l (if ex then c else c+β.ext b)
 | .nilmap=>.map none
 | .map r=>.map (some (β.blk r))
 | .fn f l m=>.func (.func f) (zf β l).toArray (zf β m).toArray
 | .yieldf l=>.func (.yield (β.blk l)) #[] #[]
 | .capv b c=>.int .i64 ((c+β.ext b:Nat):Int)
 | .nilfn=>.nilFunc
 | .iface t v=>.iface t (zc β v)
 | .niliface=>.nilIface
 | .agg l=>.agg (zf β l).toArray
 | .tuple l=>.tuple (zf β l).toArray
 | .sym i=>zW ((β i).getD (0,0,0))
 | .esl b o q=>.slice (some (if β.ext b=0 then β.addr b o else β.addr b q)) 0 (β.ext b)
 | .osl b v=>.slice (some (β.addr b 0)) (sOf (zc β v)).size (β.ext b)
 | .psl b o q c ex=>.slice (some (β.addr b o)) (zfT (zW ((β q).getD (0,0,0)))) (if ex then c else c+β.ext b)
def zf (β:Inj):List zb→List Value
 | []=>[]
 | v::l=>zc β v::zf β l
end
mutual
def WF (β:Inj):zb→Prop
 | .str s=>∀ b∈s,b<256
 | .ptr b _=>(β b).isSome
 | .slice b _ l c _=>(β b).isSome∧l≤c
 | .map r=>(β r).isSome
 | .fn _ l m=>WFs β l∧WFs β m
 | .yieldf l=>(β l).isSome
 | .capv b _=>(β b).isSome
 | .iface _ v=>WF β v
 | .agg l=>WFs β l
 | .tuple l=>WFs β l
 | .sym i=>(β i).isSome
 | .esl b _ _=>(β b).isSome
 | .osl b v=>(β b).isSome∧WF β v∧∃ s,zc β v = .string s∧s.size≤β.ext b
 | .psl b _ q c _=>(β b).isSome∧(β q).isSome∧∃ n:Nat,zW ((β q).getD (0,0,0)) = .int .i64 (n:Int)∧n≤c
 | _=>True
def WFs (β:Inj):List zb→Prop
 | []=>True
 | v::l=>WF β v∧WFs β l
end
theorem zy (β:Inj) (l:List zb):zf β l=l.map (zc β):=by
 induction l with
 | nil=>rfl
 | cons a l ih=>rw [zf,ih];rfl
theorem zT (β:Inj) (l:List zb):WFs β l↔∀ v∈l,WF β v:=by
 induction l with
 | nil=>simp [WFs]
 | cons a l ih=>rw [WFs,ih];simp
def Inj.le (β β':Inj):Prop:=∀ id x,β id=some x→β' id=some x
theorem Inj.le.refl (β:Inj):β.le β:=fun _ _ h=>h
theorem Inj.le.trans {a b c:Inj} (h:a.le b) (k:b.le c):a.le c:=fun _ _ e=>k _ _ (h _ _ e)
theorem Inj.le.some {β β':Inj} (h:β.le β') {b:Nat} (hb:(β b).isSome):β' b=β b:=by
 obtain ⟨x,hx⟩:=Option.isSome_iff_exists.1 hb
 rw [hx];exact h _ _ hx
mutual
theorem WF.mono {β β':Inj} (h:β.le β'):∀ v,WF β v→WF β' v∧zc β' v=zc β v
 | .bool _,_=>⟨trivial,rfl⟩
 | .int _ _,_=>⟨trivial,rfl⟩
 | .str _,w=>⟨by simpa [WF] using w,rfl⟩
 | .nilp,_=>⟨trivial,rfl⟩
 | .ptr b _,w=>by
  simp only [WF]at w ⊢
  have e:=h.some w
  exact ⟨e ▸ w,by simp [zc,Inj.addr,Inj.blk,Inj.sh,e]⟩
 | .nilslice,_=>⟨trivial,rfl⟩
 | .slice b _ _ _ _,w=>by
  simp only [WF]at w ⊢
  have e:=h.some w.1
  exact ⟨⟨e ▸ w.1,w.2⟩,by simp [zc,Inj.addr,Inj.blk,Inj.sh,Inj.ext,e]⟩
 | .nilmap,_=>⟨trivial,rfl⟩
 | .map r,w=>by
  simp only [WF]at w ⊢
  have e:=h.some w
  exact ⟨e ▸ w,by simp [zc,Inj.blk,e]⟩
 | .fn f l m,w=>by
  simp only [WF]at w ⊢
  obtain ⟨a1,a2⟩:=WFs.mono h l w.1
  obtain ⟨b1,b2⟩:=WFs.mono h m w.2
  exact ⟨⟨a1,b1⟩,by simp [zc,a2,b2]⟩
 | .yieldf l,w=>by
  simp only [WF]at w ⊢
  have e:=h.some w
  exact ⟨e ▸ w,by simp [zc,Inj.blk,e]⟩
 | .capv b _,w=>by
  simp only [WF]at w ⊢
  have e:=h.some w
  exact ⟨e ▸ w,by simp [zc,Inj.ext,e]⟩
 | .nilfn,_=>⟨trivial,rfl⟩
 | .iface t v,w=>by
  simp only [WF]at w ⊢
  obtain ⟨a1,a2⟩:=WF.mono h v w
  exact ⟨a1,by simp [zc,a2]⟩
 | .niliface,_=>⟨trivial,rfl⟩
 | .agg l,w=>by
  simp only [WF]at w ⊢
  obtain ⟨a1,a2⟩:=WFs.mono h l w
  exact ⟨a1,by simp [zc,a2]⟩
 | .tuple l,w=>by
  simp only [WF]at w ⊢
  obtain ⟨a1,a2⟩:=WFs.mono h l w
  exact ⟨a1,by simp [zc,a2]⟩
 | .sym i,w=>by
  simp only [WF]at w ⊢
  have e:=h.some w
  exact ⟨e ▸ w,by simp [zc,e]⟩
 | .esl b _ _,w=>by
  simp only [WF]at w ⊢
  have e:=h.some w
  have e1:β'.ext b=β.ext b:=by simp [Inj.ext,e]
  have e2:∀ o,β'.addr b o=β.addr b o:=fun o=>by simp [Inj.addr,Inj.blk,Inj.sh,e]
  exact ⟨e ▸ w,by simp only [zc,e1,e2]⟩
 | .osl b v,w=>by
  simp only [WF]at w ⊢
  obtain ⟨w1,w2,s,w3,w4⟩:=w
  have e:=h.some w1
  have e1:β'.ext b=β.ext b:=by simp [Inj.ext,e]
  have e2:∀ o,β'.addr b o=β.addr b o:=fun o=>by simp [Inj.addr,Inj.blk,Inj.sh,e]
  obtain ⟨a1,a2⟩:=WF.mono h v w2
  exact ⟨⟨e ▸ w1,a1,s,by rw [a2];exact w3,by rw [e1];exact w4⟩,by simp only [zc,e1,e2,a2]⟩
 | .psl b o q c x,w=>by
  simp only [WF]at w ⊢
  obtain ⟨w1,w2,n,w3,w4⟩:=w
  have e:=h.some w1
  have f:=h.some w2
  have e1:β'.ext b=β.ext b:=by simp [Inj.ext,e]
  have e2:∀ o,β'.addr b o=β.addr b o:=fun o=>by simp [Inj.addr,Inj.blk,Inj.sh,e]
  exact ⟨⟨e ▸ w1,f ▸ w2,n,by rw [f];exact w3,w4⟩,by simp only [zc,e1,e2,f]⟩
theorem WFs.mono {β β':Inj} (h:β.le β'):∀ l,WFs β l→WFs β' l∧zf β' l=zf β l
 | [],_=>⟨trivial,rfl⟩
 | v::l,w=>by
  simp only [WFs]at w ⊢
  obtain ⟨a1,a2⟩:=WF.mono h v w.1
  obtain ⟨b1,b2⟩:=WFs.mono h l w.2
  exact ⟨⟨a1,b1⟩,by simp [zf,a2,b2]⟩
end
@[simp] theorem YT (β:Inj):zc β qW=undef:=by simp [qW,zc,zf,undef]
@[simp] theorem zwP (β:Inj):WF β qW:=by simp [qW,WF,WFs]
def ji (P:Program) (t:TypeId):Nat:=((P.types[t]?).map (·.size)).getD 0
structure jR (P:Program) (β:Inj) (t:TypeId) (n:Nat) (c:Tr zb) (sh ext:Nat) (arr:Array Value) (fz:Nat×Nat):Prop where
 size:sh+n+ext*ji P t≤arr.size
 cell:∀ i v,c.get i=some v→WF β v∧arr[sh+i]? = some (zc β v)
 thaw:∀ i,i<arr.size→¬ (fz.1≤i∧i<fz.2)
 al:ji P t ∣ sh
def Qc (β:Inj) (e:zb×zb×Nat):MapEntry:=⟨zc β e.1,zc β e.2.1,e.2.2⟩
noncomputable def tv (T:Tr zb) (i:Nat):zb:=(T.get i).getD qW
def TV (β:Inj) (v:zb) (x:Value):Prop:=Ur v=true∨(WF β v∧x=zc β v)
theorem TV.known {β:Inj}{v:zb}{x:Value} (h:TV β v x) (hv:Ur v=false):WF β v∧x=zc β v:=by
 rcases h with h | h
 ·rw [hv]at h;cases h
 ·exact h
structure kI (β:Inj) (n:Nat) (T:Tr zb) (arr:Array Value):Prop where
 size:arr.size=n
 tmp:∀ i,TV β (tv T i) (arr.getD i undef)
structure Zq (P:Program) (β:Inj) (k:IntKind) (t:TypeId) (v:zb) (sh ext:Nat) (arr:Array Value) (fz:Nat×Nat):Prop where
 wf:WF β v
 is:∃ s,zc β v = .string s∧s.size≤ext
 size:sh+ext≤arr.size
 cell:∀ i (b:UInt8),(sOf (zc β v)).data[i]? = some b→arr[sh+i]? = some (.int k b.toNat)
 thaw:∀ i,i<arr.size→¬ (fz.1≤i∧i<fz.2)
 one:ji P t=1
def zG (P:Program) (β:Inj) (b:zo) (x:Nat×Nat×Nat) (w:World):Prop:=
 match b with
 | .cells t n c=>∃ arr fz,w.heap[x.1]? = some (.cells arr t fz)∧jR P β t n c x.2.1 x.2.2 arr fz
 | .map es clock=>∃ arr,w.heap[x.1]? = some (.map arr clock)∧arr.toList=es.map (Qc β)∧∀ e∈es,WF β e.2.1∧WF β e.1∧Up e.1=true
 | .loop st pend fn n T ps assign body=>
  ∃ tmps defers,w.heap[x.1]? = some (.loop { state:=st,pending:=pend,fn:=fn,tmps:=tmps,params:=ps,assign:=assign,body:=body,defers:=defers })∧kI β n T tmps
 | .siter s pos=>w.heap[x.1]? = some (.stringIter (str s) pos)∧x.2.1=0∧∀ b∈s,b<256
 | .text t v=>∃ arr fz,w.heap[x.1]? = some (.cells arr t fz)∧Zq P β .u8 t v x.2.1 x.2.2 arr fz
 | .pack t n N=>∃ arr fz,w.heap[x.1]? = some (.cells arr t fz)∧jR P β t n (unp n N) x.2.1 x.2.2 arr fz
 | .ints t v=>∃ arr fz,w.heap[x.1]? = some (.cells arr t fz)∧Zq P β .i64 t v x.2.1 x.2.2 arr fz
 | .view c=>∃ arr t fz,w.heap[x.1]? = some (.cells arr t fz)∧∀ i v,c.get i=some v→WF β v∧arr[x.2.1+i]? = some (zc β v)
structure Rel (P:Program) (β:Inj) (H:zl) (w:World):Prop where
 base:100≤H.next
 blk:∀ id b x,H.blk.get id=some b→β id=some x→zG P β b x w
 inj:∀ id id' b b' x x',H.blk.get id=some b→β id=some x→H.blk.get id'=some b'→β id'=some x'→x.1=x'.1→id=id'∨(id<100∧id'<100)
 bnd:∀ id x,β id=some x→id<H.next
 live:∀ id b,H.blk.get id=some b→id<H.next
theorem Rel.yF {P:Program}{β:Inj}{H:zl}{w:World} (h:Rel P β H w) {id id':Nat}{b b':zo}{x x':Nat×Nat×Nat} (hw:100≤id∨100≤id') (h1:H.blk.get id=some b) (h2:β id=some x)
  (h3:H.blk.get id'=some b') (h4:β id'=some x') (e:x.1=x'.1):id=id':=by
 rcases h.inj id id' b b' x x' h1 h2 h3 h4 e with h | ⟨h,h'⟩
 ·exact h
 ·omega
def K7 (β:Inj) (H:zl) (c:Nat):Prop:=∃ id b x,H.blk.get id=some b∧β id=some x∧x.1=c
def Range (β:Inj) (H:zl) (c:Nat):Prop:=∃ id b x,100≤id∧H.blk.get id=some b∧β id=some x∧x.1=c
theorem Range.all {β:Inj}{H:zl}{c:Nat} (h:Range β H c):K7 β H c:=by
 obtain ⟨i,b,x,_,h⟩:=h
 exact ⟨i,b,x,h⟩
structure Ext (β:Inj) (H:zl) (w:World) (β':Inj) (H':zl) (w':World):Prop where
 old:∀ id,id<H.next→β' id=β id
 next:H.next≤H'.next
 apart:∀ id,id<H.next→β id=none→H'.blk.get id=H.blk.get id
 gone:∀ id b,id<H.next→H'.blk.get id=some b→∃ b',H.blk.get id=some b'
 ro:∀ id,id<100→H'.blk.get id=H.blk.get id
 new:∀ id x,H.next≤id→β' id=some x→w.heap.size≤x.1∨Range β H x.1
 frame:∀ c,c<w.heap.size→¬ Range β H c→w'.heap[c]? = w.heap[c]?
 size:w.heap.size≤w'.heap.size
 tape:w'.tape=w.tape
 os:w'.os=w.os
 output:w'.output=w.output
theorem Ext.refl (β:Inj) (H:zl) (w:World) (hb:∀ id x,β id=some x→id<H.next):Ext β H w β H w where
 old:=fun _ _=>rfl
 next:=Nat.le_refl _
 apart:=fun _ _ _=>rfl
 gone:=fun _ b _ h=>⟨b,h⟩
 ro:=fun _ _=>rfl
 new:=fun id x h e=>absurd (hb _ _ e) (by omega)
 frame:=fun _ _ _=>rfl
 size:=Nat.le_refl _
 tape:=rfl
 os:=rfl
 output:=rfl
theorem Ext.le {β β':Inj}{H H':zl}{w w':World} (h:Ext β H w β' H' w') (hb:∀ id x,β id=some x→id<H.next):β.le β':=
 fun id x e=>by rw [h.old id (hb _ _ e)];exact e
theorem Ext.trans {β β' β'':Inj}{H H' H'':zl}{w w' w'':World} (h:Ext β H w β' H' w') (k:Ext β' H' w' β'' H'' w''):Ext β H w β'' H'' w'' where
 old:=fun id hid=>by rw [k.old id (Nat.lt_of_lt_of_le hid h.next),h.old id hid]
 next:=Nat.le_trans h.next k.next
 apart:=fun id hid e=>by rw [k.apart id (Nat.lt_of_lt_of_le hid h.next) (by rw [h.old id hid];exact e),h.apart id hid e]
 gone:=fun id b hid e=>by
  obtain ⟨b',e'⟩:=k.gone id b (Nat.lt_of_lt_of_le hid h.next) e
  exact h.gone id b' hid e'
 ro:=fun id hid=>(k.ro id hid).trans (h.ro id hid)
 new:=fun id x hid e=>by
  have aux:∀ c,Range β' H' c→w.heap.size≤c∨Range β H c:=by
   rintro c ⟨i,b,y,e0,e1,e2,rfl⟩
   by_cases hi:i<H.next
   ·obtain ⟨b',e'⟩:=h.gone i b hi e1
    exact .inr ⟨i,b',y,e0,e',by rw [← h.old i hi];exact e2,rfl⟩
   ·exact h.new i y (by omega) e2
  by_cases hi:id<H'.next
  ·exact h.new id x hid (by rw [← k.old id hi];exact e)
  ·rcases k.new id x (by omega) e with hs | hr
   ·exact .inl (Nat.le_trans h.size hs)
   ·exact aux _ hr
 frame:=fun c hc hr=>by
  rw [k.frame c (Nat.lt_of_lt_of_le hc h.size) ?_,h.frame c hc hr]
  rintro ⟨i,b,y,e0,e1,e2,rfl⟩
  by_cases hi:i<H.next
  ·obtain ⟨b',e'⟩:=h.gone i b hi e1
   exact hr ⟨i,b',y,e0,e',by rw [← h.old i hi];exact e2,rfl⟩
  ·rcases h.new i y (by omega) e2 with hs | hr'
   ·omega
   ·exact hr hr'
 size:=Nat.le_trans h.size k.size
 tape:=k.tape.trans h.tape
 os:=k.os.trans h.os
 output:=k.output.trans h.output
end Go.AEv
namespace Go.AEv
set_option linter.unusedSectionVars false
variable [Unk]
theorem TV.mono {β β':Inj}{v:zb}{x:Value} (h:TV β v x) (l:β.le β'):TV β' v x:=by
 rcases h with h | ⟨a,b⟩
 ·exact .inl h
 ·obtain ⟨c,d⟩:=WF.mono l _ a
  exact .inr ⟨c,by rw [b,d]⟩
theorem kI.mono {β β':Inj}{n:Nat}{T:Tr zb}{arr:Array Value} (h:kI β n T arr) (l:β.le β'):kI β' n T arr where
 size:=h.size
 tmp:=fun i=>(h.tmp i).mono l
theorem jR.mono {P:Program}{β β':Inj}{t:TypeId}{n:Nat}{c:Tr zb}{sh ext:Nat}{arr:Array Value}{fz:Nat×Nat}
  (h:jR P β t n c sh ext arr fz) (l:β.le β'):jR P β' t n c sh ext arr fz where
 size:=h.size
 cell:=fun i v e=>by
  obtain ⟨a,b⟩:=h.cell i v e
  obtain ⟨c,d⟩:=WF.mono l _ a
  exact ⟨c,by rw [b,d]⟩
 thaw:=h.thaw
 al:=h.al
theorem jR.bytes {P:Program}{β β':Inj}{t:TypeId}{n m N:Nat}{sh ext:Nat}{arr:Array Value}{fz:Nat×Nat} (h:jR P β t n (unp m N) sh ext arr fz):jR P β' t n (unp m N) sh ext arr fz where
 size:=h.size
 cell:=fun i v e=>by
  obtain ⟨_,b⟩:=h.cell i v e
  rw [Jy]at e
  split at e
  ·cases e;exact ⟨trivial,b⟩
  ·cases e
 thaw:=h.thaw
 al:=h.al
theorem Zq.mono {P:Program}{β β':Inj}{k:IntKind}{t:TypeId}{v:zb}{sh ext:Nat}{arr:Array Value}{fz:Nat×Nat} (h:Zq P β k t v sh ext arr fz) (l:β.le β'):Zq P β' k t v sh ext arr fz:=by
 obtain ⟨a,b⟩:=WF.mono l _ h.wf
 exact ⟨a,by rw [b];exact h.is,h.size,by rw [b];exact h.cell,h.thaw,h.one⟩
theorem zbu {β β':Inj} (l:β.le β') (e:zb×zb×Nat) (w:WF β e.2.1) (k:WF β e.1):Qc β' e=Qc β e:=by
 obtain ⟨_,d⟩:=WF.mono l _ w
 obtain ⟨_,d'⟩:=WF.mono l _ k
 simp [Qc,d,d']
theorem zba {β β':Inj}{v:zb} (h:jY v=true) (w:WF β v):WF β' v∧zc β' v=zc β v:=by
 cases v<;>first | exact ⟨w,rfl⟩ | cases h
theorem Uo {β β':Inj}:∀ {l:List zb},l.all jY=true→WFs β l→WFs β' l∧zf β' l=zf β l
 | [],_,_=>⟨trivial,rfl⟩
 | v::l,h,w=>by
  rw [List.all_cons,Bool.and_eq_true]at h
  obtain ⟨a1,a2⟩:=zba (β':=β') h.1 w.1
  obtain ⟨b1,b2⟩:=Uo h.2 w.2
  exact ⟨⟨a1,b1⟩,by rw [zf,zf,a2,b2]⟩
theorem J5 {β β':Inj}{v:zb} (h:Up v=true) (w:WF β v):WF β' v∧zc β' v=zc β v:=by
 cases v
 case agg l=>
  have h:l.all jY=true:=by have h:Qq jY l=true:=h;rwa [Zp]at h
  obtain ⟨a1,a2⟩:=Uo (β':=β') h w
  exact ⟨a1,by rw [zc,zc,a2]⟩
 all_goals exact zba h w
theorem zG.mono {P:Program}{β β':Inj}{b:zo}{x:Nat×Nat×Nat}{w:World} (h:zG P β b x w) (l:β.le β'):zG P β' b x w:=by
 cases b with
 | cells t n c=>obtain ⟨arr,fz,h1,h2⟩:=h;exact ⟨arr,fz,h1,h2.mono l⟩
 | map es clock=>
  obtain ⟨arr,h1,h2,h3⟩:=h
  refine ⟨arr,h1,?_,fun e he=>⟨(WF.mono l _ (h3 e he).1).1,(WF.mono l _ (h3 e he).2.1).1,(h3 e he).2.2⟩⟩
  rw [h2]
  exact (List.map_congr_left fun e he=>zbu l e (h3 e he).1 (h3 e he).2.1).symm
 | loop st pend fn n T ps assign body=>obtain ⟨tmps,d,h1,h2⟩:=h;exact ⟨tmps,d,h1,h2.mono l⟩
 | siter s p=>exact h
 | text t v=>obtain ⟨arr,fz,h1,h2⟩:=h;exact ⟨arr,fz,h1,h2.mono l⟩
 | pack t n N=>obtain ⟨arr,fz,h1,h2⟩:=h;exact ⟨arr,fz,h1,h2.mono l⟩
 | ints t v=>obtain ⟨arr,fz,h1,h2⟩:=h;exact ⟨arr,fz,h1,h2.mono l⟩
 | view c=>
  obtain ⟨arr,t,fz,h1,h2⟩:=h
  refine ⟨arr,t,fz,h1,fun i v hv=>?_⟩
  obtain ⟨a1,a2⟩:=WF.mono l v (h2 i v hv).1
  exact ⟨a1,by rw [a2];exact (h2 i v hv).2⟩
theorem zG.heap {P:Program}{β:Inj}{b:zo}{x:Nat×Nat×Nat}{w w':World} (h:zG P β b x w) (e:w'.heap[x.1]? = w.heap[x.1]?):zG P β b x w':=by
 cases b<;>simpa only [zG,e] using h
theorem zG.lt {P:Program}{β:Inj}{b:zo}{x:Nat×Nat×Nat}{w:World} (h:zG P β b x w):x.1<w.heap.size:=by
 cases b with
 | cells t n c=>obtain ⟨arr,fz,h1,h2⟩:=h;exact (Array.getElem?_eq_some_iff.1 h1).1
 | map es clock=>obtain ⟨arr,h1,h2⟩:=h;exact (Array.getElem?_eq_some_iff.1 h1).1
 | loop st pend fn n T ps assign body=>obtain ⟨tmps,d,h1,h2⟩:=h;exact (Array.getElem?_eq_some_iff.1 h1).1
 | siter s p=>exact (Array.getElem?_eq_some_iff.1 h.1).1
 | text t v=>obtain ⟨arr,fz,h1,h2⟩:=h;exact (Array.getElem?_eq_some_iff.1 h1).1
 | pack t n N=>obtain ⟨arr,fz,h1,h2⟩:=h;exact (Array.getElem?_eq_some_iff.1 h1).1
 | ints t v=>obtain ⟨arr,fz,h1,h2⟩:=h;exact (Array.getElem?_eq_some_iff.1 h1).1
 | view c=>obtain ⟨arr,t,fz,h1,h2⟩:=h;exact (Array.getElem?_eq_some_iff.1 h1).1
structure Alike (w w':World):Prop where
 heap:w'.heap=w.heap
 tape:w'.tape=w.tape
 os:w'.os=w.os
 output:w'.output=w.output
theorem Rel.alike {P:Program}{β:Inj}{H:zl}{w w':World} (h:Rel P β H w) (e:Alike w w'):Rel P β H w' where
 blk:=fun id b x h1 h2=>(h.blk id b x h1 h2).heap (by rw [e.heap])
 base:=h.base
 inj:=h.inj
 bnd:=h.bnd
 live:=h.live
theorem Ext.alike {β:Inj}{H:zl}{w w':World} (hb:∀ id x,β id=some x→id<H.next) (e:Alike w w'):Ext β H w β H w' where
 old:=fun _ _=>rfl
 next:=Nat.le_refl _
 apart:=fun _ _ _=>rfl
 gone:=fun _ b _ h=>⟨b,h⟩
 ro:=fun _ _=>rfl
 new:=fun id x h e=>absurd (hb _ _ e) (by omega)
 frame:=fun _ _ _=>by rw [e.heap]
 size:=by rw [e.heap];exact Nat.le_refl _
 tape:=e.tape
 os:=e.os
 output:=e.output
theorem zG.XA {P:Program}{β:Inj}{b:zo}{x:Nat×Nat×Nat}{w w':World} (h:zG P β b x w) (e:∀ c,c<w.heap.size→w'.heap[c]? = w.heap[c]?):zG P β b x w':=h.heap (e _ h.lt)
structure Jd (c:Nat) (w w':World):Prop where
 other:∀ k,k≠c→w'.heap[k]? = w.heap[k]?
 size:w'.heap.size=w.heap.size
 tape:w'.tape=w.tape
 os:w'.os=w.os
 output:w'.output=w.output
theorem Jd.refl (c:Nat) (w:World):Jd c w w:=⟨fun _ _=>rfl,rfl,rfl,rfl,rfl⟩
theorem Jd.trans {c:Nat}{a b d:World} (h:Jd c a b) (k:Jd c b d):Jd c a d:=
 ⟨fun i hi=>(k.other i hi).trans (h.other i hi),k.size.trans h.size,k.tape.trans h.tape,k.os.trans h.os,k.output.trans h.output⟩
theorem Rel.zl0 {P:Program}{β:Inj}{H:zl}{w w':World} (hR:Rel P β H w) {id:Nat}{b b':zo}{x:Nat×Nat×Nat}
  (h60:100≤id) (hb:H.blk.get id=some b) (hx:β id=some x) (ht:Jd x.1 w w') (hr:zG P β b' x w') :
  Rel P β ⟨H.blk.set id b',H.next⟩ w'∧Ext β H w β ⟨H.blk.set id b',H.next⟩ w':=by
 refine ⟨⟨hR.base,?_,?_,hR.bnd,?_⟩,⟨fun _ _=>rfl,Nat.le_refl _,?_,?_,?_,fun i y hi e=>absurd (hR.bnd _ _ e) (by omega),?_,by rw [ht.size];exact Nat.le_refl _,ht.tape,ht.os,ht.output⟩⟩
 ·intro i c y h1 h2
  rw [Tr.zL]at h1
  by_cases hi:id=i
  ·subst hi
   rw [if_pos rfl]at h1
   cases h1
   rw [hx]at h2;cases h2
   exact hr
  ·rw [if_neg hi]at h1
   refine (hR.blk i c y h1 h2).heap (ht.other _ fun e=>hi ?_)
   exact hR.yF (.inl h60) hb hx h1 h2 e.symm
 ·intro i j c d y z h1 h2 h3 h4 e
  have aux:∀ i c,(H.blk.set id b').get i=some c→∃ c',H.blk.get i=some c':=by
   intro i c h
   rw [Tr.zL]at h
   by_cases hi:id=i
   ·exact ⟨b,by rw [← hi];exact hb⟩
   ·rw [if_neg hi]at h;exact ⟨c,h⟩
  obtain ⟨c',h1'⟩:=aux _ _ h1
  obtain ⟨d',h3'⟩:=aux _ _ h3
  exact hR.inj _ _ _ _ _ _ h1' h2 h3' h4 e
 ·intro i c h
  show i<H.next
  have h:(H.blk.set id b').get i=some c:=h
  rw [Tr.zL]at h
  by_cases hi:id=i
  ·subst hi;exact hR.live _ _ hb
  ·rw [if_neg hi]at h;exact hR.live _ _ h
 ·intro i _ e
  show (H.blk.set id b').get i=_
  rw [Tr.zL,if_neg]
  intro hi;subst hi;rw [hx]at e;cases e
 ·intro i c _ h
  have h:(H.blk.set id b').get i=some c:=h
  rw [Tr.zL]at h
  by_cases hi:id=i
  ·exact ⟨b,by rw [← hi];exact hb⟩
  ·rw [if_neg hi]at h;exact ⟨c,h⟩
 ·intro i hi
  show (H.blk.set id b').get i=_
  rw [Tr.zL,if_neg (by omega)]
 ·intro c _ hc
  exact ht.other c fun e=>hc ⟨id,b,x,h60,hb,hx,e.symm⟩
def Inj.put (β:Inj) (id:Nat) (x:Nat×Nat×Nat):Inj:=fun i=>if i=id then some x else β i
theorem Inj.ky {β:Inj}{id:Nat}{x:Nat×Nat×Nat} (h:β id=none):β.le (β.put id x):=by
 intro i y e
 unfold Inj.put
 by_cases hi:i=id
 ·subst hi;rw [h]at e;cases e
 ·rw [if_neg hi];exact e
theorem Inj.zM (β:Inj) (id:Nat) (x:Nat×Nat×Nat):β.put id x id=some x:=by simp [Inj.put]
theorem Inj.z9 (β:Inj) {id i:Nat} (x:Nat×Nat×Nat) (h:i≠id):β.put id x i=β i:=by simp [Inj.put,h]
theorem Rel.fresh {P:Program}{β:Inj}{H:zl}{w:World} (hR:Rel P β H w) {m:Nat} (h:H.next≤m):β m=none:=by
 cases e:β m with
 | none=>rfl
 | some x=>exact absurd (hR.bnd _ _ e) (by omega)
def push (w:World) (o:Obj):World:={ w with heap:=w.heap.push o }
theorem Xu (w:World) (o:Obj) {k:Nat} (h:k<w.heap.size):(push w o).heap[k]? = w.heap[k]?:=by
 show (w.heap.push o)[k]? = _
 rw [Array.getElem?_push,if_neg (by omega)]
theorem kQ (w:World) (o:Obj):(push w o).heap[w.heap.size]? = some o:=by
 show (w.heap.push o)[w.heap.size]? = _
 rw [Array.getElem?_push,if_pos rfl]
theorem Rel.add {P:Program}{β:Inj}{H:zl}{w:World} (hR:Rel P β H w) (b':zo) (o:Obj) (e:Nat)
  (hr:zG P (β.put H.next (w.heap.size,0,e)) b' (w.heap.size,0,e) (push w o)) :
  Rel P (β.put H.next (w.heap.size,0,e)) ⟨H.blk.set H.next b',H.next+1⟩ (push w o) ∧
  Ext β H w (β.put H.next (w.heap.size,0,e)) ⟨H.blk.set H.next b',H.next+1⟩ (push w o):=by
 have hf:=hR.fresh (Nat.le_refl H.next)
 have hle:=Inj.ky (x:=(w.heap.size,0,e)) hf
 have old:∀ i y,i≠H.next→β.put H.next (w.heap.size,0,e) i=some y→β i=some y:=fun i y hi h=>by
  rw [Inj.z9 _ _ hi]at h;exact h
 refine ⟨⟨Nat.le_succ_of_le hR.base,?_,?_,?_,?_⟩,⟨?_,Nat.le_succ _,?_,?_,?_,?_,?_,by simp [push],rfl,rfl,rfl⟩⟩
 ·intro i c y h1 h2
  have h1:(H.blk.set H.next b').get i=some c:=h1
  rw [Tr.zL]at h1
  by_cases hi:H.next=i
  ·subst hi
   rw [if_pos rfl]at h1;cases h1
   rw [Inj.zM]at h2;cases h2
   exact hr
  ·rw [if_neg hi]at h1
   have h2':=old i y (fun e=>hi e.symm) h2
   have:=hR.blk i c y h1 h2'
   exact (this.mono hle).heap (Xu w o this.lt)
 ·intro i j c d y z h1 h2 h3 h4 e'
  have h1:(H.blk.set H.next b').get i=some c:=h1
  have h3:(H.blk.set H.next b').get j=some d:=h3
  rw [Tr.zL]at h1 h3
  by_cases hi:H.next=i
  ·by_cases hj:H.next=j
   ·omega
   ·rw [if_neg hj]at h3
    have:=(hR.blk j d z h3 (old j z (fun e=>hj e.symm) h4)).lt
    subst hi;rw [Inj.zM]at h2;cases h2
    simp at e';omega
  ·rw [if_neg hi]at h1
   by_cases hj:H.next=j
   ·have:=(hR.blk i c y h1 (old i y (fun e=>hi e.symm) h2)).lt
    subst hj;rw [Inj.zM]at h4;cases h4
    simp at e';omega
   ·rw [if_neg hj]at h3
    exact hR.inj _ _ _ _ _ _ h1 (old i y (fun e=>hi e.symm) h2) h3 (old j z (fun e=>hj e.symm) h4) e'
 ·intro i y h
  show i<H.next+1
  by_cases hi:i=H.next
  ·omega
  ·have:=hR.bnd _ _ (old i y hi h);omega
 ·intro i c h
  show i<H.next+1
  have h:(H.blk.set H.next b').get i=some c:=h
  rw [Tr.zL]at h
  by_cases hi:H.next=i
  ·omega
  ·rw [if_neg hi]at h;have:=hR.live _ _ h;omega
 ·intro i hi;exact Inj.z9 _ _ (by omega)
 ·intro i hi _
  show (H.blk.set H.next b').get i=_
  rw [Tr.zL,if_neg (by omega)]
 ·intro i c hi h
  have h:(H.blk.set H.next b').get i=some c:=h
  rw [Tr.zL,if_neg (by omega)]at h
  exact ⟨c,h⟩
 ·intro i hi
  have:=hR.base
  show (H.blk.set H.next b').get i=_
  rw [Tr.zL,if_neg (by omega)]
 ·intro i y hi h
  by_cases hi':i=H.next
  ·subst hi';rw [Inj.zM]at h;cases h;exact .inl (Nat.le_refl _)
  ·exact absurd (hR.bnd _ _ (old i y hi' h)) (by omega)
 ·intro c hc _;exact Xu w o hc
theorem Rel.del {P:Program}{β:Inj}{H:zl}{w:World} (hR:Rel P β H w) {id:Nat} (h60:100≤id) {x:Nat×Nat×Nat} (hx:β id=some x) :
  Rel P β ⟨H.blk.del id,H.next⟩ w∧Ext β H w β ⟨H.blk.del id,H.next⟩ w:=by
 have aux:∀ i c,(H.blk.del id).get i=some c→H.blk.get i=some c:=by
  intro i c h
  rw [Tr.qT]at h
  by_cases hi:id=i
  ·rw [if_pos hi]at h;cases h
  ·rw [if_neg hi]at h;exact h
 refine ⟨⟨hR.base,fun i c y h1 h2=>hR.blk i c y (aux _ _ h1) h2,fun i j c d y z h1 h2 h3 h4 e=>hR.inj _ _ _ _ _ _ (aux _ _ h1) h2 (aux _ _ h3) h4 e,hR.bnd,fun i c h=>hR.live _ _ (aux _ _ h)⟩,
  ⟨fun _ _=>rfl,Nat.le_refl _,?_,fun i c _ h=>⟨c,aux _ _ h⟩,fun i hi=>(by show (H.blk.del id).get i=_;rw [Tr.qT,if_neg (by omega)]),fun i y hi e=>absurd (hR.bnd _ _ e) (by omega),fun _ _ _=>rfl,Nat.le_refl _,rfl,rfl,rfl⟩⟩
 intro i _ e
 show (H.blk.del id).get i=_
 rw [Tr.qT,if_neg]
 intro hi;subst hi;rw [hx]at e;cases e
theorem Rel.rename {P:Program}{β:Inj}{H:zl}{w w':World} (hR:Rel P β H w) {id:Nat}{b b':zo}{x y:Nat×Nat×Nat}
  (h60:100≤id) (hb:H.blk.get id=some b) (hx:β id=some x) (hy:y.1=x.1) (ht:Jd x.1 w w') (hr:zG P (β.put H.next y) b' y w') :
  Rel P (β.put H.next y) ⟨(H.blk.del id).set H.next b',H.next+1⟩ w'∧Ext β H w (β.put H.next y) ⟨(H.blk.del id).set H.next b',H.next+1⟩ w':=by
 have hf:=hR.fresh (Nat.le_refl H.next)
 have hid:=hR.live _ _ hb
 have hle:=Inj.ky (x:=y) hf
 have old:∀ i z,i≠H.next→β.put H.next y i=some z→β i=some z:=fun i z hi h=>by
  rw [Inj.z9 _ _ hi]at h;exact h
 have aux:∀ i c,((H.blk.del id).set H.next b').get i=some c→i≠H.next→i≠id∧H.blk.get i=some c:=by
  intro i c h hi
  rw [Tr.zL,if_neg (fun e=>hi e.symm),Tr.qT]at h
  by_cases hi':id=i
  ·rw [if_pos hi']at h;cases h
  ·rw [if_neg hi']at h;exact ⟨fun e=>hi' e.symm,h⟩
 have self:∀ c,((H.blk.del id).set H.next b').get H.next=some c→c=b':=by
  intro c h;rw [Tr.zL,if_pos rfl]at h;cases h;rfl
 refine ⟨⟨Nat.le_succ_of_le hR.base,?_,?_,?_,?_⟩,⟨?_,Nat.le_succ _,?_,?_,?_,?_,?_,by rw [ht.size];exact Nat.le_refl _,ht.tape,ht.os,ht.output⟩⟩
 ·intro i c z h1 h2
  by_cases hi:i=H.next
  ·subst hi
   cases self _ h1
   rw [Inj.zM]at h2;cases h2
   exact hr
  ·obtain ⟨h3,h4⟩:=aux i c h1 hi
   have h5:=old i z hi h2
   have:=hR.blk i c z h4 h5
   refine (this.mono hle).heap (ht.other _ fun e=>h3 ?_)
   exact hR.yF (.inr h60) h4 h5 hb hx e
 ·intro i j c d z u h1 h2 h3 h4 e
  by_cases hi:i=H.next
  ·by_cases hj:j=H.next
   ·omega
   ·obtain ⟨h5,h6⟩:=aux j d h3 hj
    subst hi;rw [Inj.zM]at h2;cases h2
    exact absurd (hR.yF (.inr h60) h6 (old j u hj h4) hb hx (by rw [← e,hy])) h5
  ·obtain ⟨h5,h6⟩:=aux i c h1 hi
   by_cases hj:j=H.next
   ·subst hj;rw [Inj.zM]at h4;cases h4
    exact absurd (hR.yF (.inr h60) h6 (old i z hi h2) hb hx (by rw [e,hy])) h5
   ·obtain ⟨h7,h8⟩:=aux j d h3 hj
    exact hR.inj _ _ _ _ _ _ h6 (old i z hi h2) h8 (old j u hj h4) e
 ·intro i z h
  show i<H.next+1
  by_cases hi:i=H.next
  ·omega
  ·have:=hR.bnd _ _ (old i z hi h);omega
 ·intro i c h
  show i<H.next+1
  by_cases hi:i=H.next
  ·omega
  ·have:=hR.live _ _ (aux i c h hi).2;omega
 ·intro i hi;exact Inj.z9 _ _ (by omega)
 ·intro i hi e
  show ((H.blk.del id).set H.next b').get i=_
  rw [Tr.zL,if_neg (by omega),Tr.qT,if_neg]
  intro hi';subst hi';rw [hx]at e;cases e
 ·intro i c hi h
  exact ⟨c,(aux i c h (by omega)).2⟩
 ·intro i hi
  have:=hR.base
  show ((H.blk.del id).set H.next b').get i=_
  rw [Tr.zL,if_neg (by omega),Tr.qT,if_neg (by omega)]
 ·intro i z hi h
  by_cases hi':i=H.next
  ·subst hi';rw [Inj.zM]at h;cases h
   exact .inr ⟨id,b,x,h60,hb,hx,hy.symm⟩
  ·exact absurd (hR.bnd _ _ (old i z hi' h)) (by omega)
 ·intro c _ hc
  exact ht.other c fun e=>hc ⟨id,b,x,h60,hb,hx,e.symm⟩
end Go.AEv
namespace Go.AEv
set_option linter.unusedSectionVars false
variable [Unk]
structure kH (E:Env):Prop where
 types:∀ t,E.types.get t=E.P.types[t]?
 funcs:∀ f,E.funcs.get f=E.P.funcs[f]?
theorem zm1 (P:Program) (s:List (FuncId×Spec)) (fs:List Fact) (ts:List (Nat×zo)):kH (ja P s fs ts) where
 types:=fun t=>by show (Tr.ofList P.types.toList).get t=_;rw [Tr.zY];simp [ja]
 funcs:=fun t=>by show (Tr.ofList P.funcs.toList).get t=_;rw [Tr.zY];simp [ja]
theorem kt:∀ (l:List (Nat×zo)) (id:Nat) (b:zo),(jd l).get id=some b→(id,b)∈l:=by
 intro l
 induction l with
 | nil=>intro id b h;rw [show jd [] = .nil from rfl,Tr.get_nil]at h;cases h
 | cons p l ih=>
  intro id b h
  rw [show jd (p::l)=(jd l).set p.1 p.2 from rfl,Tr.zL]at h
  by_cases hi:p.1=id
  ·rw [if_pos hi]at h
   cases h
   subst hi
   exact List.mem_cons_self
  ·rw [if_neg hi]at h
   exact List.mem_cons_of_mem _ (ih id b h)
theorem zha:∀ (l:List (Nat×zo)) (p:Nat×zo),p∈l→∃ b,(jd l).get p.1=some b:=by
 intro l
 induction l with
 | nil=>intro p h;cases h
 | cons q l ih=>
  intro p h
  rw [show jd (q::l)=(jd l).set q.1 q.2 from rfl,Tr.zL]
  by_cases hi:q.1=p.1
  ·exact ⟨_,by rw [if_pos hi]⟩
  ·rw [if_neg hi]
   rcases List.mem_cons.1 h with rfl | h
   ·exact absurd rfl hi
   ·exact ih p h
structure Grown (w w':World):Prop where
 old:∀ c,c<w.heap.size→w'.heap[c]? = w.heap[c]?
 size:w.heap.size≤w'.heap.size
 tape:w'.tape=w.tape
 os:w'.os=w.os
 output:w'.output=w.output
theorem Rel.VB {P:Program}{β:Inj}{H:zl}{w w':World} (h:Rel P β H w) (e:Grown w w'):Rel P β H w' where
 blk:=fun id b x h1 h2=>(h.blk id b x h1 h2).XA e.old
 base:=h.base
 inj:=h.inj
 bnd:=h.bnd
 live:=h.live
theorem Ext.VB {β:Inj}{H:zl}{w w':World} (hb:∀ id x,β id=some x→id<H.next) (e:Grown w w'):Ext β H w β H w' where
 old:=fun _ _=>rfl
 next:=Nat.le_refl _
 apart:=fun _ _ _=>rfl
 gone:=fun _ b _ h=>⟨b,h⟩
 ro:=fun _ _=>rfl
 new:=fun id x h e=>absurd (hb _ _ e) (by omega)
 frame:=fun c hc _=>e.old c hc
 size:=e.size
 tape:=e.tape
 os:=e.os
 output:=e.output
def zr1 (x:Value):Bool:=match x with | .nilIface=>false | .agg _=>false | _=>true
def zU (P:Program) (tabs:List (Nat×zo)) (w:World):Prop:=∃ β:Inj,(∀ g,g<100→β g=some (Unk.place g))∧∀ p∈tabs,zG P β p.2 (Unk.place p.1) w
structure Made (P:Program) (β:Inj) (N n:Nat) (rows:List (Nat×zo)) (γ:Inj) (w w2:World):Prop where
 low:∀ id,id<N→∀ x,γ id=some x→β id=some x
 high:∀ id,N+n≤id→γ id=none
 new:∀ id x,N≤id→γ id=some x→w.heap.size≤x.1
 blk:∀ p∈rows,∀ x,γ p.1=some x→zG P γ p.2 x w2
 inj:∀ p∈rows,∀ q∈rows,∀ x y,γ p.1=some x→γ q.1=some y→x.1=y.1→p.1=q.1
def zoy (β:Inj) (w:World) (p:zb) (x:Value):Prop:=
 match Qf p with
 | none=>WF β p∧x=zc β p
 | some q=>WF β q.2∧∃ s b o cap,zc β q.2 = .string s∧x = .slice (some ⟨b,o,none⟩) s.size cap∧s.size≤cap∧∀ i (c:UInt8),s.data[i]? = some c→w.cell? ⟨b,o+i,none⟩=some (.int .u8 c.toNat)
def zja (β:Inj) (w:World):List zb→List Value→Prop
 | [],[]=>True
 | p::l,x::m=>zoy β w p x∧zja β w l m
 | _,_=>False
def zov (P:Program) (b:zo):Prop:=∀ (β β':Inj) (x:Nat×Nat×Nat) (w:World),(∀ g,g<100→β g=some (Unk.place g))→(∀ g,g<100→β' g=some (Unk.place g))→zG P β b x w→zG P β' b x w
def yI (P:Program) (tabs:List (Nat×zo)) (β:Inj) (f:FuncId) (args:List zb) (nx:Nat) (rin rout:List (Nat×zo)) (r:zb) (n:Nat):Prop:=
 ∀ β' H w,β.le β'→Rel P β' H w→(∀ g,g<100→β' g=some (Unk.place g))→(∀ p∈tabs,p.1<100∧H.blk.get p.1=some p.2)→H.next=nx→(∀ p∈rin,H.blk.get p.1=some p.2)→WFs β' args →
  Calls P f (zf β' args).toArray w fun e w2=>∃ γ,e = .returned (zc γ r)∧WF γ r∧Rel P γ (kS H rin rout n) w2∧Ext β' H w γ (kS H rin rout n) w2
def Zt (P:Program) (tabs:List (Nat×zo)) (β:Inj) (f:FuncId) (args:List zb) (r:zb):Prop:=
 WFs β args∧WF β r∧∀ w,zU P tabs w→Calls P f (zf β args).toArray w fun e w2=>e = .returned (zc β r)∧Grown w w2
def yJ (P:Program) (tabs:List (Nat×zo)) (β:Inj) (f:FuncId) (args:List zb) (N n:Nat) (rows:List (Nat×zo)) (r:zb):Prop:=
 WFs β args∧(∀ p∈rows,N≤p.1∧p.1<N+n∧(kC p.2).isNone=true)∧∀ w,zU P tabs w→Calls P f (zf β args).toArray w fun e w2=>Grown w w2∧∃ γ,e = .returned (zc γ r)∧WF γ r∧Made P β N n rows γ w w2
theorem Zt.mono {P:Program}{tabs:List (Nat×zo)}{β β':Inj} (l:β.le β') {f:FuncId}{as:List zb}{r:zb} (h:Zt P tabs β f as r):Zt P tabs β' f as r:=by
 obtain ⟨h1,h2,h3⟩:=h
 obtain ⟨a1,a2⟩:=WFs.mono l _ h1
 obtain ⟨b1,b2⟩:=WF.mono l _ h2
 exact ⟨a1,b1,by rw [a2,b2];exact h3⟩
theorem yJ.mono {P:Program}{tabs:List (Nat×zo)}{β β':Inj} (l:β.le β') {f:FuncId}{as:List zb}{N n:Nat}{rows:List (Nat×zo)}{r:zb} (h:yJ P tabs β f as N n rows r):yJ P tabs β' f as N n rows r:=by
 obtain ⟨h1,h2,h3⟩:=h
 obtain ⟨a1,a2⟩:=WFs.mono l _ h1
 refine ⟨a1,h2,fun w hw=>?_⟩
 rw [a2]
 exact (h3 w hw).mono fun e w2 hx=>by
  obtain ⟨g,γ,e1,e2,m⟩:=hx
  exact ⟨g,γ,e1,e2,⟨fun id hid x hx=>l _ _ (m.low id hid x hx),m.high,m.new,m.blk,m.inj⟩⟩
def Zu (P:Program) (β:Inj) (op:BinOp) (a b r:zb):Prop:=WF β a∧WF β b∧WF β r∧zr1 (zc β a)=true∧∀ t w,(Go.binOp op t (zc β a) (zc β b)).run P w = .ok (zc β r) w
def K6 (P:Program) (β:Inj) (op:UnOp) (a r:zb):Prop:=WF β a∧WF β r∧∀ w,(Op.unary op (zc β a)).run P w = .ok (zc β r) w
theorem Zu.mono {P:Program}{β β':Inj} (l:β.le β') {op:BinOp}{a b r:zb} (h:Zu P β op a b r):Zu P β' op a b r:=by
 obtain ⟨h1,h2,h3,h4,h5⟩:=h
 obtain ⟨a1,a2⟩:=WF.mono l _ h1
 obtain ⟨b1,b2⟩:=WF.mono l _ h2
 obtain ⟨r1,r2⟩:=WF.mono l _ h3
 exact ⟨a1,b1,r1,by rw [a2];exact h4,by rw [a2,b2,r2];exact h5⟩
theorem K6.mono {P:Program}{β β':Inj} (l:β.le β') {op:UnOp}{a r:zb} (h:K6 P β op a r):K6 P β' op a r:=by
 obtain ⟨h1,h2,h3⟩:=h
 obtain ⟨a1,a2⟩:=WF.mono l _ h1
 obtain ⟨r1,r2⟩:=WF.mono l _ h2
 exact ⟨a1,r1,by rw [a2,r2];exact h3⟩
def zr (P:Program) (tabs:List (Nat×zo)) (β:Inj):Fact→Prop
 | .bin op a b r=>Zu P β op a b r
 | .eq sh a b r=>WF β a∧WF β b∧((sh=1∧∃ k m n,zc β a = .int k m∧zc β b = .int k n∧r=(m==n))∨(sh=2∧∃ s t,zc β a = .string s∧zc β b = .string t∧r=decide (s=t))∨(sh=3∧∃ s t:Bool,zc β a = .bool s∧zc β b = .bool t∧r=(s==t)))
 | .conv k a r=>WF β a∧WF β r∧∃ j n,zc β a = .int j n∧zc β r = .int k (k.wrap n)
 | .len a r=>WF β a∧WF β r∧∃ s,zc β a = .string s∧zc β r = .int .i64 (s.size:Nat)
 | .min a b r=>WF β a∧WF β b∧WF β r∧∃ k m n,zc β a = .int k m∧zc β b = .int k n∧zc β r = .int k (if n<m then n else m)
 | .max a b r=>WF β a∧WF β b∧WF β r∧∃ k m n,zc β a = .int k m∧zc β b = .int k n∧zc β r = .int k (if m<n then n else m)
 | .sub a lo hi r=>WF β a∧WF β lo∧WF β hi∧WF β r∧∃ s j l k h,zc β a = .string s∧zc β lo = .int j (Int.ofNat l)∧zc β hi = .int k (Int.ofNat h)∧l≤h∧h≤s.size∧zc β r = .string (s.extract l h)
 | .call f args r=>Zt P tabs β f args r
 | .make f args N n rows r=>yJ P tabs β f args N n rows r
 | .callF g=>∀ f args r,g f args=some r→Zt P tabs β f args r
 | .makeF g=>∀ f args x,g f args=some x→yJ P tabs β f args x.1 x.2.1 x.2.2.1 x.2.2.2
 | .binF g=>∀ op a b r,g op a b=some r→Zu P β op a b r
 | .unF g=>∀ op a r,g op a=some r→K6 P β op a r
 | .at_ a i r=>WF β a∧WF β r∧∃ s b,zc β a = .string s∧s.data[i]? = some b∧zc β r = .int .u8 b.toNat
 | .pack l r=>WFs β l∧WF β r∧∃ s,zc β r = .string s∧zf β l=s.data.toList.map fun b=>Value.int .u8 b.toNat
 | .read f args r=>WF β r∧∀ w vs β',β.le β'→zU P tabs w→zja β' w args vs→Calls P f vs.toArray w fun e w2=>e = .returned (zc β r)∧Grown w w2
 | .memo f args nx rin rout r n=>yI P tabs β f args nx rin rout r n
 | .num q lo hi=>WF β (.sym q)∧∃ n:Nat,zc β (.sym q) = .int .i64 (n:Int)∧lo≤n∧n≤hi
 | .diff q m r=>WF β (.sym q)∧WF β (.sym r)∧∃ n:Nat,zc β (.sym q) = .int .i64 (n:Int)∧m≤n∧zc β (.sym r) = .int .i64 ((n-m:Nat):Int)
 | .slen a r=>WF β a∧WF β r∧∃ p n c,zc β a = .slice p n c∧zc β r = .int .i64 (n:Nat)
 | .ssub a h r=>WF β a∧WF β h∧WF β r∧∃ p n c j k,zc β a = .slice p n c∧zc β h = .int j (Int.ofNat k)∧k≤c∧zc β r = .slice p k c
 | .memoG f N _ args nx rin rout r n=>∃ β0:Inj,β0.le β∧(∀ id,N≤id→β0 id=none)∧yI P tabs β0 f args nx rin rout r n∧(∀ t,∀ p∈rin,(qg rin t).get p.1=some p.2) ∧
  (∀ p∈rout,N≤p.1∧(kC p.2).isNone=true)∧(∀ t,∀ p∈rout,(qg rout t).get p.1=some p.2)∧∀ p∈tabs,zov P p.2∧(jd tabs).get p.1=some p.2
theorem zr.mono {P:Program}{tabs:List (Nat×zo)}{β β':Inj} (l:β.le β') {f:Fact} (h:zr P tabs β f):zr P tabs β' f:=by
 cases f with
 | bin op a b r=>
  obtain ⟨h1,h2,h3,h4,h5⟩:=h
  obtain ⟨a1,a2⟩:=WF.mono l _ h1
  obtain ⟨b1,b2⟩:=WF.mono l _ h2
  obtain ⟨r1,r2⟩:=WF.mono l _ h3
  exact ⟨a1,b1,r1,by rw [a2];exact h4,by rw [a2,b2,r2];exact h5⟩
 | eq sh a b r=>
  obtain ⟨h1,h2,h3⟩:=h
  obtain ⟨a1,a2⟩:=WF.mono l _ h1
  obtain ⟨b1,b2⟩:=WF.mono l _ h2
  exact ⟨a1,b1,by rw [a2,b2];exact h3⟩
 | conv k a r=>
  obtain ⟨h1,h2,h3⟩:=h
  obtain ⟨a1,a2⟩:=WF.mono l _ h1
  obtain ⟨b1,b2⟩:=WF.mono l _ h2
  exact ⟨a1,b1,by rw [a2,b2];exact h3⟩
 | len a r=>
  obtain ⟨h1,h2,h3⟩:=h
  obtain ⟨a1,a2⟩:=WF.mono l _ h1
  obtain ⟨b1,b2⟩:=WF.mono l _ h2
  exact ⟨a1,b1,by rw [a2,b2];exact h3⟩
 | min a b r=>
  obtain ⟨h1,h2,h3,h4⟩:=h
  obtain ⟨a1,a2⟩:=WF.mono l _ h1
  obtain ⟨b1,b2⟩:=WF.mono l _ h2
  obtain ⟨r1,r2⟩:=WF.mono l _ h3
  exact ⟨a1,b1,r1,by rw [a2,b2,r2];exact h4⟩
 | max a b r=>
  obtain ⟨h1,h2,h3,h4⟩:=h
  obtain ⟨a1,a2⟩:=WF.mono l _ h1
  obtain ⟨b1,b2⟩:=WF.mono l _ h2
  obtain ⟨r1,r2⟩:=WF.mono l _ h3
  exact ⟨a1,b1,r1,by rw [a2,b2,r2];exact h4⟩
 | sub a lo hi r=>
  obtain ⟨h1,h2,h3,h4,h5⟩:=h
  obtain ⟨a1,a2⟩:=WF.mono l _ h1
  obtain ⟨b1,b2⟩:=WF.mono l _ h2
  obtain ⟨c1,c2⟩:=WF.mono l _ h3
  obtain ⟨r1,r2⟩:=WF.mono l _ h4
  exact ⟨a1,b1,c1,r1,by rw [a2,b2,c2,r2];exact h5⟩
 | call f as r=>exact Zt.mono l h
 | callF g=>exact fun f args r hr=>(h f args r hr).mono l
 | binF g=>exact fun op a b r hr=>(h op a b r hr).mono l
 | unF g=>exact fun op a r hr=>(h op a r hr).mono l
 | makeF g=>exact fun f args x hr=>(h f args x hr).mono l
 | at_ a i r=>
  obtain ⟨h1,h2,h3⟩:=h
  obtain ⟨a1,a2⟩:=WF.mono l _ h1
  obtain ⟨b1,b2⟩:=WF.mono l _ h2
  exact ⟨a1,b1,by rw [a2,b2];exact h3⟩
 | pack as r=>
  obtain ⟨h1,h2,h3⟩:=h
  obtain ⟨a1,a2⟩:=WFs.mono l _ h1
  obtain ⟨b1,b2⟩:=WF.mono l _ h2
  exact ⟨a1,b1,by rw [a2,b2];exact h3⟩
 | read f as r=>
  obtain ⟨h1,h2⟩:=h
  obtain ⟨a1,a2⟩:=WF.mono l _ h1
  refine ⟨a1,fun w vs β2 l2=>?_⟩
  rw [a2]
  exact h2 w vs β2 (fun id x hx=>l2 id x (l id x hx))
 | num q lo hi=>
  obtain ⟨h1,n,h2,h3⟩:=h
  obtain ⟨a1,a2⟩:=WF.mono l _ h1
  exact ⟨a1,n,by rw [a2];exact h2,h3⟩
 | diff q m r=>
  obtain ⟨h1,h2,n,h3,h4,h5⟩:=h
  obtain ⟨a1,a2⟩:=WF.mono l _ h1
  obtain ⟨b1,b2⟩:=WF.mono l _ h2
  exact ⟨a1,b1,n,by rw [a2];exact h3,h4,by rw [b2];exact h5⟩
 | slen a r=>
  obtain ⟨h1,h2,h3⟩:=h
  obtain ⟨a1,a2⟩:=WF.mono l _ h1
  obtain ⟨b1,b2⟩:=WF.mono l _ h2
  exact ⟨a1,b1,by rw [a2,b2];exact h3⟩
 | ssub a h' r=>
  obtain ⟨h1,h2,h3,h4⟩:=h
  obtain ⟨a1,a2⟩:=WF.mono l _ h1
  obtain ⟨b1,b2⟩:=WF.mono l _ h2
  obtain ⟨r1,r2⟩:=WF.mono l _ h3
  exact ⟨a1,b1,r1,by rw [a2,b2,r2];exact h4⟩
 | memoG f N segs args nx rin rout r n=>
  obtain ⟨β0,h1,h2⟩:=h
  exact ⟨β0,fun id x hx=>l id x (h1 id x hx),h2⟩
 | memo f as nx rin rout r n=>exact fun β2 H w h2=>h β2 H w (fun id x hx=>h2 id x (l id x hx))
 | make f as N n rows r=>exact yJ.mono l h
def zB (E:Env) (β:Inj):Prop:=∀ f∈E.facts,zr E.P E.tabs β f
theorem zB.mono {E:Env}{β β':Inj} (l:β.le β') (h:zB E β):zB E β':=fun f hf=>(h f hf).mono l
theorem qk {α:Type}{p:Fact→Option α}:∀ {l:List Fact}{r:α},findF p l=some r→∃ f∈l,p f=some r:=by
 intro l
 induction l with
 | nil=>intro r h;cases h
 | cons f l ih=>
  intro r h
  have h:zh (p f) (findF p l) some=some r:=h
  cases hp:p f with
  | none=>
   rw [hp]at h
   obtain ⟨g,hg,e⟩:=ih h
   exact ⟨g,List.mem_cons_of_mem _ hg,e⟩
  | some q=>
   rw [hp]at h
   exact ⟨f,List.mem_cons_self,by rw [hp];exact h⟩
theorem XZ {P:Program}{tabs:List (Nat×zo)}{β:Inj}{op:BinOp}{a b r:zb}{f:Fact} (h:za9 op a b f=some r) (hf:zr P tabs β f):Zu P β op a b r:=by
 cases f<;>simp only [za9]at h<;>first | (cases h;done) | skip
 case bin o x y q=>
  obtain ⟨h1,h⟩:=zg h
  simp only [zk,Bool.and_eq_true,zw,beq_iff_eq]at h1
  obtain ⟨e1,e2,e3⟩:=h1
  cases h
  have hf:Zu P β o x y r:=hf
  rw [zN _ _ e2,zN _ _ e3]
  have:op=o:=by cases op<;>cases o<;>first | rfl | (cases e1;done)
  rw [this]
  exact hf
 case binF g=>exact hf op a b r h
theorem zm9 {P:Program}{tabs:List (Nat×zo)}{β:Inj}{op:UnOp}{a r:zb}{f:Fact} (h:mUn op a f=some r) (hf:zr P tabs β f):K6 P β op a r:=by
 cases f<;>simp only [mUn]at h<;>first | (cases h;done) | skip
 case unF g=>exact hf op a r h
theorem zh2 {sh:Nat}{a b:zb}{r:Bool}{f:Fact} (h:mEq sh a b f=some r):f = .eq sh a b r:=by
 cases f<;>simp only [mEq]at h<;>first | (cases h;done) | skip
 obtain ⟨h1,h⟩:=zg h
 simp only [zk,Bool.and_eq_true,zw,beq_iff_eq]at h1
 obtain ⟨e1,e2,e3⟩:=h1
 cases h
 rw [zN _ _ e2,zN _ _ e3,e1]
theorem znl {k:IntKind}{a r:zb}{f:Fact} (h:znm k a f=some r):f = .conv k a r:=by
 cases f<;>simp only [znm]at h<;>first | (cases h;done) | skip
 obtain ⟨h1,h⟩:=zg h
 simp only [zk,Bool.and_eq_true]at h1
 obtain ⟨e1,e2⟩:=h1
 cases h
 rw [zN _ _ e2,(YH _ _).1 e1]
theorem XY {a r:zb}{f:Fact} (h:zcb a f=some r):f = .len a r:=by
 cases f<;>simp only [zcb]at h<;>first | (cases h;done) | skip
 obtain ⟨h1,h⟩:=zg h
 cases h
 rw [zN _ _ h1]
theorem znd {a r:zb}{f:Fact} (h:zne a f=some r):f = .slen a r:=by
 cases f<;>simp only [zne]at h<;>first | (cases h;done) | skip
 obtain ⟨h1,h⟩:=zg h
 cases h
 rw [zN _ _ h1]
theorem znb {a b r:zb}{f:Fact} (h:znc a b f=some r):f = .ssub a b r:=by
 cases f<;>simp only [znc]at h<;>first | (cases h;done) | skip
 obtain ⟨h1,h⟩:=zg h
 simp only [zk,Bool.and_eq_true]at h1
 obtain ⟨e1,e2⟩:=h1
 cases h
 rw [zN _ _ e1,zN _ _ e2]
theorem zpc {a b r:zb}{f:Fact} (h:zr8 a b f=some r):f = .min a b r:=by
 cases f<;>simp only [zr8]at h<;>first | (cases h;done) | skip
 obtain ⟨h1,h⟩:=zg h
 simp only [zk,Bool.and_eq_true]at h1
 obtain ⟨e1,e2⟩:=h1
 cases h
 rw [zN _ _ e1,zN _ _ e2]
theorem zpd {a b r:zb}{f:Fact} (h:zr9 a b f=some r):f = .max a b r:=by
 cases f<;>simp only [zr9]at h<;>first | (cases h;done) | skip
 obtain ⟨h1,h⟩:=zg h
 simp only [zk,Bool.and_eq_true]at h1
 obtain ⟨e1,e2⟩:=h1
 cases h
 rw [zN _ _ e1,zN _ _ e2]
theorem zpb {a l h' r:zb}{f:Fact} (h:zna a l h' f=some r):f = .sub a l h' r:=by
 cases f<;>simp only [zna]at h<;>first | (cases h;done) | skip
 obtain ⟨h1,h⟩:=zg h
 simp only [zk,Bool.and_eq_true]at h1
 obtain ⟨e1,e2,e3⟩:=h1
 cases h
 rw [zN _ _ e1,zN _ _ e2,zN _ _ e3]
theorem zsa {a r:zb}{i:Nat}{f:Fact} (h:mAt a i f=some r):f = .at_ a i r:=by
 cases f<;>simp only [mAt]at h<;>first | (cases h;done) | skip
 obtain ⟨h1,h⟩:=zg h
 simp only [zk,Bool.and_eq_true,zw,beq_iff_eq]at h1
 obtain ⟨e1,e2⟩:=h1
 cases h
 rw [zN _ _ e1,e2]
theorem zng {l:List zb}{r:zb}{f:Fact} (h:zjK l f=some r):f = .pack l r:=by
 cases f<;>simp only [zjK]at h<;>first | (cases h;done) | skip
 obtain ⟨h1,h⟩:=zg h
 cases h
 rw [jc _ _ h1]
theorem znn {P:Program}{tabs:List (Nat×zo)}{β:Inj}{g:FuncId}{as:List zb}{r:zb}{f:Fact} (h:zf1 g as f=some r) (hf:zr P tabs β f):Zt P tabs β g as r:=by
 cases f<;>simp only [zf1]at h<;>first | (cases h;done) | exact hf _ _ _ h | skip
 obtain ⟨h1,h⟩:=zg h
 simp only [zk,Bool.and_eq_true,zw,beq_iff_eq]at h1
 obtain ⟨e1,e2⟩:=h1
 cases h
 rw [jc _ _ e2,e1]
 exact hf
theorem znj {P:Program}{tabs:List (Nat×zo)}{β:Inj}{g:FuncId}{as:List zb}{r:Nat×Nat×List (Nat×zo)×zb}{f:Fact} (h:zfZ g as f=some r) (hf:zr P tabs β f):yJ P tabs β g as r.1 r.2.1 r.2.2.1 r.2.2.2:=by
 cases f<;>simp only [zfZ]at h<;>first | (cases h;done) | exact hf _ _ _ h | skip
 obtain ⟨h1,h⟩:=zg h
 simp only [zk,Bool.and_eq_true,zw,beq_iff_eq]at h1
 obtain ⟨e1,e2⟩:=h1
 cases h
 rw [jc _ _ e2,e1]
 exact hf
section
variable {E:Env} (hE:kH E)
include hE
theorem U5 {t:TypeId}{i:TypeInfo} (h:E.types.get t=some i):E.P.info? t=some i:=by
 rw [hE.types]at h
 have:t<E.P.types.size:=by
  rcases Nat.lt_or_ge t E.P.types.size with h' | h'
  ·exact h'
  ·rw [Array.getElem?_eq_none h']at h;cases h
 unfold Tables.info?
 rw [if_pos this];exact h
theorem kG {t:TypeId}{d:TypeDesc} (h:E.desc t=some d):E.P.underlying t=some d:=by
 unfold Env.desc at h
 obtain ⟨i,hi,h⟩:=ze h
 have h1:=U5 hE hi
 unfold Program.underlying
 rw [h1]
 unfold descOf at h
 obtain ⟨desc,a1,a2,a3,a4,a5,a6,a7,a8,a9⟩:=i
 cases desc with
 | named n u=>
  obtain ⟨j,hj,h⟩:=ze h
  cases h
  simp [U5 hE hj]
 | _=>simpa using h
theorem zt {t:TypeId}{d:TypeDesc} (h:E.desc t=some d) (w:World):(underlying t).run E.P w = .ok d w:=by
 simp [underlying,kG hE h]
theorem ZX {t:TypeId}{n:Nat} (h:E.size t=some n):∃ i,E.P.info? t=some i∧E.types.get t=some i∧i.size=n∧ji E.P t=n:=by
 unfold Env.size at h
 obtain ⟨i,hi,h⟩:=ze h
 cases h
 refine ⟨i,U5 hE hi,hi,rfl,?_⟩
 unfold ji
 rw [← hE.types,hi];rfl
theorem kO {t:TypeId}{i:TypeInfo} (h:E.types.get t=some i) (w:World):(typeInfo t).run E.P w = .ok i w:=by
 simp [typeInfo,U5 hE h]
theorem qo {t:TypeId}{n:Nat} (h:E.size t=some n) (w:World):(sizeOf t).run E.P w = .ok n w:=by
 obtain ⟨i,h1,h2,h3,_⟩:=ZX hE h
 simp [sizeOf,typeInfo,h1,h3]
theorem zcF {t:TypeId}{g:Bool} (h:E.isAgg t=some g) (w:World):(isAgg t).run E.P w = .ok g w:=by
 unfold Env.isAgg at h
 obtain ⟨d,hd,h⟩:=ze h
 cases h
 unfold isAgg
 rw [Sem.run_bind,zt hE hd]
 cases d<;>simp [zwJ]
end
theorem zj8 {H:zl}{b:Nat}{r:Row} (h:H.zqq b=some r):H.blk.get b=some (.cells r.t r.n r.c):=by
 unfold zl.zqq at h
 obtain ⟨k,hk,h⟩:=ze h
 cases k<;>cases h
 exact hk
theorem Qh {H:zl}{b:Nat}{r:Row} (h:H.row b=some r):∃ b0,H.blk.get b=some b0∧zog b0=some r:=by
 unfold zl.row at h
 obtain ⟨k,hk,h⟩:=ze h
 exact ⟨k,hk,h⟩
theorem K0 {b0:zo}{r:Row} (h:zog b0=some r) {P:Program}{β:Inj}{x:Nat×Nat×Nat}{w:World}:zG P β b0 x w↔zG P β (.cells r.t r.n r.c) x w:=by
 cases b0<;>cases h<;>exact Iff.rfl
theorem Inj.jy (β:Inj) (b off j:Nat):(β.addr b off).add j=β.addr b (off+j):=by
 unfold Addr.add Inj.addr
 by_cases h:j=0
 ·simp [h]
 ·simp [h,Nat.add_assoc]
theorem Wc {b:zo}{q:TypeId×zb} (h:KZ b=some q):b = .text q.1 q.2:=by cases b<;>cases h;rfl
theorem Rel.zg9 {P:Program}{β:Inj}{H:zl}{w:World} (hR:Rel P β H w) {b:Nat}{t:TypeId}{v:zb} (h:H.blk.get b=some (.text t v)) (hb:(β b).isSome) :
  ∃ arr fz,w.heap[β.blk b]? = some (.cells arr t fz)∧Zq P β .u8 t v (β.sh b) (β.ext b) arr fz:=by
 obtain ⟨x,hx⟩:=Option.isSome_iff_exists.1 hb
 obtain ⟨arr,fz,h1,h2⟩:=hR.blk b _ x h hx
 refine ⟨arr,fz,?_,?_⟩
 ·simpa [Inj.blk,hx] using h1
 ·simpa [Inj.sh,Inj.ext,hx] using h2
theorem Rel.rowAt {P:Program}{β:Inj}{H:zl}{w:World} (hR:Rel P β H w) {b:Nat}{r:Row} (h:H.row b=some r) (hb:(β b).isSome) :
  ∃ arr fz,w.heap[β.blk b]? = some (.cells arr r.t fz)∧jR P β r.t r.n r.c (β.sh b) (β.ext b) arr fz:=by
 obtain ⟨x,hx⟩:=Option.isSome_iff_exists.1 hb
 obtain ⟨b0,hb0,ha0⟩:=Qh h
 have:=(K0 ha0).1 (hR.blk b _ x hb0 hx)
 obtain ⟨arr,fz,h1,h2⟩:=this
 refine ⟨arr,fz,?_,?_⟩
 ·simpa [Inj.blk,hx] using h1
 ·simpa [Inj.sh,Inj.ext,hx] using h2
theorem cell_of {w:World}{c o:Nat}{arr:Array Value}{t:TypeId}{fz:Nat×Nat} (h:w.heap[c]? = some (.cells arr t fz)):w.cell? ⟨c,o,none⟩=arr[o]?:=by
 simp [World.cell?,h]
theorem zll {w:World}{c o:Nat}{arr:Array Value}{t:TypeId}{fz:Nat×Nat} (h:w.heap[c]? = some (.cells arr t fz))
  (hf:∀ i,i<arr.size→¬ (fz.1≤i∧i<fz.2)) (ho:o<arr.size):w.frozen? ⟨c,o,none⟩=false:=by
 have:=hf o ho
 simp only [World.frozen?,h]
 simp only [Bool.and_eq_false_iff,decide_eq_false_iff_not]
 omega
theorem zhn {w:World}{c o:Nat}{arr:Array Value}{t:TypeId}{fz:Nat×Nat} (h:w.heap[c]? = some (.cells arr t fz)) (v:Value) :
  (w.setCell ⟨c,o,none⟩ v).heap[c]? = some (.cells (arr.setIfInBounds o v) t fz)∧Jd c w (w.setCell ⟨c,o,none⟩ v):=by
 refine ⟨?_,⟨?_,?_,rfl,rfl,rfl⟩⟩
 ·simp only [World.setCell,Array.getElem?_modify,if_true,h]
  simp
 ·intro k hk
  simp only [World.setCell,Array.getElem?_modify]
  rw [if_neg (by simpa using fun e=>hk e.symm)]
 ·simp [World.setCell]
theorem Rel.cell {P:Program}{β:Inj}{H:zl}{w:World} (hR:Rel P β H w) {b off:Nat}{r:Row}{v:zb} (h:H.row b=some r) (hb:(β b).isSome)
  (hv:r.c.get off=some v):w.cell? (β.addr b off)=some (zc β v)∧WF β v:=by
 obtain ⟨arr,fz,h1,h2⟩:=hR.rowAt h hb
 obtain ⟨a,c⟩:=h2.cell off v hv
 exact ⟨by rw [Inj.addr,cell_of h1];exact c,a⟩
theorem Rel.zf6 {P:Program}{β:Inj}{H:zl}{w:World} (hR:Rel P β H w) {b off:Nat}{v:zb} (h:H.zf6 b off=some v) (hb:(β b).isSome) :
  w.cell? (β.addr b off)=some (zc β v)∧WF β v:=by
 unfold zl.zf6 at h
 cases hr:H.row b with
 | some r=>
  rw [hr,zd]at h
  exact hR.cell hr hb h
 | none=>
  rw [hr,zn]at h
  obtain ⟨k,hk,h⟩:=ze h
  obtain ⟨c,hc,h⟩:=ze h
  cases k<;>cases hc
  obtain ⟨x,hx⟩:=Option.isSome_iff_exists.1 hb
  obtain ⟨arr,t,fz,h1,h2⟩:=hR.blk b _ x hk hx
  obtain ⟨h3,h4⟩:=h2 off v h
  refine ⟨?_,h3⟩
  have e1:β.blk b=x.1:=by simp [Inj.blk,hx]
  have e2:β.sh b=x.2.1:=by simp [Inj.sh,hx]
  rw [Inj.addr,e1,e2,cell_of h1]
  exact h4
theorem Rel.kp {P:Program}{β:Inj}{H:zl}{w:World} (hR:Rel P β H w) {b off n:Nat}{l:List zb} (h:H.kp b off n=some l) (hb:(β b).isSome) :
  l.length=n∧WFs β l∧(loadCells (β.addr b off) n).run P w = .ok (zf β l).toArray w:=by
 obtain ⟨r,hr,h⟩:=ze h
 obtain ⟨h1,h2⟩:=Tr.jq _ _ _ _ h
 have h3:∀ k v,l[k]? = some v→w.cell? ((β.addr b off).add k)=some (zc β v)∧WF β v:=by
  intro k v hk
  have hlt:k<n:=by rw [← h1];exact (List.getElem?_eq_some_iff.1 hk).1
  rw [Inj.jy]
  exact hR.cell hr hb (by rw [h2 k hlt];exact hk)
 refine ⟨h1,(zT _ _).2 fun v hv=>?_,?_⟩
 ·obtain ⟨k,hk⟩:=List.mem_iff_getElem?.1 hv
  exact (h3 k v hk).2
 ·have:=run_loadCells_list (P:=P) (w:=w) (β.addr b off) (zf β l) (by
   intro j v hj
   rw [zy,List.getElem?_map]at hj
   cases hl:l[j]? with
   | none=>rw [hl]at hj;cases hj
   | some u=>rw [hl]at hj;cases hj;exact (h3 j u hl).1)
  rwa [zy,List.length_map,h1,← zy]at this
section
variable {E:Env} (hE:kH E)
include hE
theorem Rel.loadVar {β:Inj}{H:zl}{w:World} (hR:Rel E.P β H w) {t:TypeId}{b off:Nat}{v:zb} (h:E.loadVar H t b off=some v) (hb:(β b).isSome) :
  WF β v∧(loadVar t (β.addr b off)).run E.P w = .ok (zc β v) w:=by
 obtain ⟨g,hg,h⟩:=ze h
 unfold Go.loadVar
 rw [Sem.run_bind,zcF hE hg]
 cases g with
 | true=>
  obtain ⟨n,hn,h⟩:=ze h
  obtain ⟨l,hl,h⟩:=ze h
  cases h
  obtain ⟨h1,h2,h3⟩:=hR.kp hl hb
  refine ⟨h2,?_⟩
  simp [qo hE hn,h3,zc]
 | false=>
  obtain ⟨h1,h2⟩:=hR.zf6 h hb
  refine ⟨h2,?_⟩
  simp [h1]
end
theorem zd8 (β:Inj) (v:zb):(zc β v).oneCell'=yw v:=by
 cases v<;>first | rfl | (rename_i i;rw [zc];have hp:=zat ((β i).getD (0,0,0));revert hp;cases zW ((β i).getD (0,0,0))<;>intro hp<;>first | rfl | cases hp)
theorem Kz {β:Inj}{v:zb} (h:yw v=true):(zc β v).oneCell'=true:=by rw [zd8];exact h
theorem Wz {P:Program} (c o:Nat) (t:TypeId) (fz:Nat×Nat):∀ (vs:List Value) (i:Nat) (w:World) (arr:Array Value),
  w.heap[c]? = some (.cells arr t fz)→(∀ i,i<arr.size→¬ (fz.1≤i∧i<fz.2))→o+i+vs.length≤arr.size→(∀ v∈vs,v.oneCell'=true) →
  ∃ w' arr',(storeCells ⟨c,o,none⟩ vs i).run P w = .ok () w'∧w'.heap[c]? = some (.cells arr' t fz)∧Jd c w w'∧arr'.size=arr.size ∧
   ∀ k,arr'[k]? = if o+i≤k∧k<o+i+vs.length then vs[k-(o+i)]? else arr[k]?:=by
 intro vs
 induction vs with
 | nil=>
  intro i w arr h _ _ _
  refine ⟨w,arr,by simp [storeCells],h,.refl _ _,rfl,fun k=>?_⟩
  rw [if_neg (by simp)]
 | cons v vs ih=>
  intro i w arr h hf hs hv
  have ha:(⟨c,o,none⟩:Addr).add i=⟨c,o+i,none⟩:=by
   unfold Addr.add;by_cases hi:i=0<;>simp [hi]
  simp only [List.length_cons]at hs
  obtain ⟨s1,s2⟩:=zhn (o:=o+i) h v
  obtain ⟨w',arr',r1,r2,r3,r4,r5⟩:=ih (i+1) (w.setCell ⟨c,o+i,none⟩ v) (arr.setIfInBounds (o+i) v) s1 (by simpa using hf) (by simp;omega) (fun u hu=>hv u (by simp [hu]))
  refine ⟨w',arr',?_,r2,s2.trans r3,by simpa using r4,fun k=>?_⟩
  ·rw [storeCells,Sem.run_bind,ha,run_store _ _ _ _ _ (hv v (by simp)),cell_of h,Array.getElem?_eq_getElem (by omega)]
   simp only [zll h hf (by omega:o+i<arr.size)]
   exact r1
  ·rw [r5 k]
   by_cases h1:o+(i+1)≤k∧k<o+(i+1)+vs.length
   ·rw [if_pos h1,if_pos (by simp;omega)]
    have:k-(o+i)=(k-(o+(i+1)))+1:=by omega
    rw [this,List.getElem?_cons_succ]
   ·rw [if_neg h1,Array.getElem?_setIfInBounds]
    by_cases h2:o+i=k
    ·subst h2
     simp only [if_true]
     rw [if_pos (by omega),if_pos (by simp)]
     simp
    ·rw [if_neg h2,if_neg (by simp;omega)]
theorem Rel.QQ {P:Program}{β:Inj}{H H':zl}{w:World} (hR:Rel P β H w) {b off:Nat}{l:List zb} (h:H.QQ b off l=some H') (hb:(β b).isSome) (hl:WFs β l) :
  ∃ w',(storeCells (β.addr b off) (zf β l)).run P w = .ok () w'∧Rel P β H' w'∧Ext β H w β H' w':=by
 obtain ⟨r,hr,h⟩:=ze h
 obtain ⟨h1,h⟩:=zg h
 cases h
 rw [zk,zk,Bool.and_eq_true,Bool.and_eq_true,zE,decide_eq_true_eq,zE,decide_eq_true_eq,jx,Zp]at h1
 obtain ⟨h60,hn,hok⟩:=h1
 have hn:off+l.length≤r.n:=hn
 obtain ⟨arr,fz,g1,g2⟩:=hR.rowAt hr hb
 obtain ⟨x,hx⟩:=Option.isSome_iff_exists.1 hb
 have hx1:β.blk b=x.1:=by simp [Inj.blk,hx]
 have hs:=g2.size
 obtain ⟨w',arr',r1,r2,r3,r4,r5⟩:=Wz (P:=P) (β.blk b) (β.sh b+off) r.t fz (zf β l) 0 w arr g1 g2.thaw
  (by rw [zy,List.length_map];omega) (by
   intro v hv
   rw [zy]at hv
   obtain ⟨u,hu,rfl⟩:=List.mem_map.1 hv
   exact Kz (List.all_eq_true.1 hok u hu))
 refine ⟨w',r1,?_⟩
 unfold zl.put
 obtain ⟨b0,hb0,_⟩:=Qh hr
 refine hR.zl0 h60 hb0 hx (by rw [← hx1];exact r3) ⟨arr',fz,by rw [← hx1];exact r2,⟨?_,?_,?_,by rw [show x.2.1=β.sh b by simp [Inj.sh,hx]];exact g2.al⟩⟩
 ·have:x.2.1=β.sh b∧x.2.2=β.ext b:=by simp [Inj.sh,Inj.ext,hx]
  rw [this.1,this.2,r4];exact g2.size
 ·intro i v hv
  have:x.2.1=β.sh b:=by simp [Inj.sh,hx]
  rw [this,r5,zy,List.length_map]
  rw [Tr.zbo]at hv
  by_cases hi:off≤i∧i<off+l.length
  ·rw [if_pos hi]at hv
   rw [if_pos (by omega),List.getElem?_map]
   have:β.sh b+i-(β.sh b+off+0)=i-off:=by omega
   rw [this,hv]
   exact ⟨(zT _ _).1 hl v (List.mem_of_getElem? hv),rfl⟩
  ·rw [if_neg hi]at hv
   rw [if_neg (by omega)]
   exact g2.cell i v hv
 ·rw [r4];exact g2.thaw
theorem qV (β:Inj) (v:zb):(zc β v).cells=(zf β (zP v)).toArray:=by
 cases v
 case sym i=>
  have hc:zf β (zP (.sym i))=[zc β (.sym i)]:=rfl
  have e:zc β (.sym i)=zW ((β i).getD (0,0,0)):=by rw [zc]
  have hp:=zat ((β i).getD (0,0,0))
  rw [hc]
  rw [← e]at hp
  cases h:zc β (.sym i)<;>first | rfl | (rw [h]at hp;cases hp)
 all_goals simp [zc,Value.cells,zP,zf]
section
variable {E:Env} (hE:kH E)
include hE
theorem zou {β:Inj}{v:zb} (h:WF β v):WFs β (zP v):=by
 have _:=hE
 cases v<;>first | exact h | exact ⟨h,trivial⟩
theorem Rel.storeVar {β:Inj}{H H':zl}{w:World} (hR:Rel E.P β H w) {t:TypeId}{b off:Nat}{v:zb} (h:E.storeVar H t b off v=some H') (hb:(β b).isSome) (hv:WF β v) :
  ∃ w',(storeVar t (β.addr b off) (zc β v)).run E.P w = .ok () w'∧Rel E.P β H' w'∧Ext β H w β H' w':=by
 obtain ⟨n,hn,h⟩:=ze h
 obtain ⟨h1,h⟩:=zg h
 rw [zw,jx,beq_iff_eq]at h1
 obtain ⟨w',r1,r2,r3⟩:=hR.QQ h hb (zou hE hv)
 refine ⟨w',?_,r2,r3⟩
 unfold Go.storeVar
 rw [qV]
 simp [qo hE hn,zy,h1]
 rw [← zy];exact r1
end
end Go.AEv
