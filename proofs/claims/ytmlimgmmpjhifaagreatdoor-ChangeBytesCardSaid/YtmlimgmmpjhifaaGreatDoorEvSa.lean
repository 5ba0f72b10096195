/- A verified evaluator of Go code, and its soundness (EvSa). Conditions: those of each theorem. -/
import Derived.Test.YtmlimgmmpjhifaaGreatDoorEvK
import Derived.Laws.Sem
import Derived.Laws.Cells
set_option linter.all false
namespace Go.AEv
section
universe u v
@[simp] theorem qI {α:Sort u} (t e:α):ifB true t e=t:=rfl
@[simp] theorem yq {α:Sort u} (t e:α):ifB false t e=e:=rfl
theorem zu {α:Sort u} (b:Bool) (t e:α):ifB b t e=if b then t else e:=by cases b<;>rfl
@[simp] theorem DG {α:Type u}{β:Type v} (f:α→Option β):bnd none f=none:=rfl
@[simp] theorem qi {α:Type u}{β:Type v} (a:α) (f:α→Option β):bnd (some a) f=f a:=rfl
theorem zf {α:Type u}{β:Type v}{x:Option α}{f:α→Option β}{b:β} (h:bnd x f=some b):∃ a,x=some a∧f a=some b:=by
 cases x with
 | none=>cases h
 | some a=>exact ⟨a,rfl,h⟩
@[simp] theorem zm {α:Type u}{β:Sort v} (e:β) (f:α→β):zt none e f=e:=rfl
@[simp] theorem zg {α:Type u}{β:Sort v} (a:α) (e:β) (f:α→β):zt (some a) e f=f a:=rfl
@[simp] theorem z7 {α:Sort u} (n:Nat) (f:Nat→α):frc n f=f n:=rfl
@[simp] theorem XZ {α:Sort u} (z:α) (s:Nat→α):Q9 0 z s=z:=rfl
@[simp] theorem JM {α:Sort u} (n:Nat) (z:α) (s:Nat→α):Q9 (n+1) z s=s n:=rfl
@[simp] theorem yp {α:Sort u} (n:Nat) (p q:Nat→α):yf (.ofNat n) p q=p n:=rfl
@[simp] theorem kf {α:Sort u} (n:Nat) (p q:Nat→α):yf (.negSucc n) p q=q n:=rfl
@[simp] theorem bq {α:Type u}{β:Sort v} (z:β) (s:α→List α→β):lC [] z s=z:=rfl
@[simp] theorem kZ {α:Type u}{β:Sort v} (a:α) (l:List α) (z:β) (s:α→List α→β):lC (a::l) z s=s a l:=rfl
theorem zB (a b:Bool):zH a b=(a&&b):=by cases a<;>rfl
theorem qY (a:Bool):kU a = !a:=by cases a<;>rfl
theorem QV (a b:Bool):oh a b=(a==b):=by cases a<;>cases b<;>rfl
theorem zG (a b:Nat):Nat.beq a b=(a==b):=by
 rw [Bool.eq_iff_iff];simp [Nat.beq_eq]
theorem qo (a b:Nat):Nat.blt a b=decide (a<b):=by
 rw [Bool.eq_iff_iff];simp [Nat.blt,Nat.succ_le_iff]
theorem zN (a b:Nat):Nat.ble a b=decide (a≤b):=by
 rw [Bool.eq_iff_iff];simp
theorem zl {α:Type u}{b:Bool}{t:Option α}{a:α} (h:ifB b t none=some a):b=true∧t=some a:=by
 cases b
 ·cases h
 ·exact ⟨rfl,h⟩
theorem kg {α:Type u}{b:Bool}{t:Option α}{a:α} (h:ifB b none t=some a):b=false∧t=some a:=by
 cases b
 ·exact ⟨rfl,h⟩
 ·cases h
theorem dk:∀ (i j:Nat),path i=path j→i=j:=by
 have key:∀ f i g j,i<f→j<g→Jn f i=Jn g j→i=j:=by
  intro f
  induction f with
  | zero=>intro i g j hi;omega
  | succ f ih=>
   intro i g j hi hj h
   cases g with
   | zero=>omega
   | succ g=>
    have e1:∀ f i,Jn (f+1) i=ifB (Nat.beq i 0) Pa.e (ifB (Nat.beq (Nat.mod i 2) 1) (.o (Jn f (Nat.div i 2))) (.i (Jn f (Nat.pred (Nat.div i 2))))):=fun _ _=>rfl
    rw [e1,e1]at h
    have m1:∀ i,Nat.mod i 2=i % 2:=fun _=>rfl
    have d1:∀ i,Nat.div i 2=i / 2:=fun _=>rfl
    simp only [zu,Nat.beq_eq,m1,d1,Nat.pred_eq_sub_one]at h
    by_cases i0:i=0
    ·by_cases j0:j=0
     ·omega
     ·rw [if_pos i0,if_neg j0]at h
      split at h<;>cases h
    ·rw [if_neg i0]at h
     by_cases j0:j=0
     ·rw [if_pos j0]at h
      split at h<;>cases h
     ·rw [if_neg j0]at h
      by_cases i1:i % 2=1
      ·rw [if_pos i1]at h
       by_cases j1:j % 2=1
       ·rw [if_pos j1]at h
        injection h with h
        have:=ih (i / 2) g (j / 2) (by omega) (by omega) h;omega
       ·rw [if_neg j1]at h;cases h
      ·rw [if_neg i1]at h
       by_cases j1:j % 2=1
       ·rw [if_pos j1]at h;cases h
       ·rw [if_neg j1]at h
        injection h with h
        have:=ih (i / 2-1) g (j / 2-1) (by omega) (by omega) h;omega
 intro i j h
 exact key (i+1) i (j+1) j (by omega) (by omega) h
theorem Zw {α:Type} (q:Pa):ZX q (Tr.nil:Tr α)=none:=by cases q<;>rfl
theorem Yi {α:Type} (l:Tr α) (v:Option α) (r:Tr α):ZX .e (.node l v r)=v:=rfl
theorem yM {α:Type} (p:Pa) (l:Tr α) (v:Option α) (r:Tr α):ZX (.o p) (.node l v r)=ZX p l:=rfl
theorem yN {α:Type} (p:Pa) (l:Tr α) (v:Option α) (r:Tr α):ZX (.i p) (.node l v r)=ZX p r:=rfl
theorem US {α:Type} (a:Option α):∀ (p q:Pa) (t:Tr α),ZX q (XR a p t)=if p=q then a else ZX q t:=by
 intro p
 induction p with
 | e=>
  intro q t
  cases t with
  | nil=>
   have h:XR a .e (Tr.nil:Tr α) = .node .nil a .nil:=rfl
   rw [h];cases q<;>simp [Yi,yM,yN,Zw]
  | node l v r=>
   have h:XR a .e (.node l v r) = .node l a r:=rfl
   rw [h];cases q<;>simp [Yi,yM,yN]
 | o p ih=>
  intro q t
  cases t with
  | nil=>
   have h:XR a (.o p) (Tr.nil:Tr α) = .node (XR a p .nil) none .nil:=rfl
   rw [h];cases q<;>simp [Yi,yM,yN,Zw,ih]
  | node l v r=>
   have h:XR a (.o p) (.node l v r) = .node (XR a p l) v r:=rfl
   rw [h];cases q<;>simp [Yi,yM,yN,ih]
 | i p ih=>
  intro q t
  cases t with
  | nil=>
   have h:XR a (.i p) (Tr.nil:Tr α) = .node .nil none (XR a p .nil):=rfl
   rw [h];cases q<;>simp [Yi,yM,yN,Zw,ih]
  | node l v r=>
   have h:XR a (.i p) (.node l v r) = .node l v (XR a p r):=rfl
   rw [h];cases q<;>simp [Yi,yM,yN,ih]
theorem QG (f i:Nat):Jn (f+1) i=ifB (Nat.beq i 0) Pa.e (ifB (Nat.beq (Nat.mod i 2) 1) (.o (Jn f (Nat.div i 2))) (.i (Jn f (Nat.pred (Nat.div i 2))))):=rfl
theorem V3:∀ f g i,i<f→i<g→Jn f i=Jn g i:=by
 intro f
 induction f with
 | zero=>intro g i h;omega
 | succ f ih=>
  intro g i hf hg
  cases g with
  | zero=>omega
  | succ g=>
   rw [QG,QG]
   by_cases h0:i=0
   ·subst h0;rfl
   ·have hd:Nat.div i 2<i:=Nat.div_lt_self (by omega) (by decide)
    have hp:Nat.pred (Nat.div i 2)<i:=Nat.lt_of_le_of_lt (Nat.pred_le _) hd
    rw [ih g (Nat.div i 2) (by omega) (by omega),ih g (Nat.pred (Nat.div i 2)) (by omega) (by omega)]
theorem pQ (j:Nat):path (2*j+1) = .o (path j):=by
 unfold path
 rw [show Nat.succ (2*j+1)=(2*j+1)+1 from rfl,QG]
 have h0:Nat.beq (2*j+1) 0=false:=rfl
 have h1:Nat.beq (Nat.mod (2*j+1) 2) 1=true:=by
  rw [zG,beq_iff_eq];show (2*j+1) % 2=1;omega
 have h2:Nat.div (2*j+1) 2=j:=by show (2*j+1) / 2=j;omega
 rw [h0,yq,h1,qI,h2,V3 (2*j+1) (Nat.succ j) j (by omega) (by omega)]
theorem nf (j:Nat):path (2*j+2) = .i (path j):=by
 unfold path
 rw [show Nat.succ (2*j+2)=(2*j+2)+1 from rfl,QG]
 have h0:Nat.beq (2*j+2) 0=false:=rfl
 have h1:Nat.beq (Nat.mod (2*j+2) 2) 1=false:=by
  rw [zG];show ((2*j+2) % 2==1)=false;simp
 have h2:Nat.pred (Nat.div (2*j+2) 2)=j:=by show (2*j+2) / 2-1=j;omega
 rw [h0,yq,h1,yq,h2,V3 (2*j+2) (Nat.succ j) j (by omega) (by omega)]
theorem yC {α:Type} (l:Tr α) (v:Option α) (r:Tr α):(Tr.node l v r).get 0=v:=rfl
theorem ki {α:Type} (l:Tr α) (v:Option α) (r:Tr α) (j:Nat):(Tr.node l v r).get (2*j+1)=l.get j:=by
 unfold Tr.get;rw [pQ,yM]
theorem jQ {α:Type} (l:Tr α) (v:Option α) (r:Tr α) (j:Nat):(Tr.node l v r).get (2*j+2)=r.get j:=by
 unfold Tr.get;rw [nf,yN]
namespace Tr
variable {α:Type}
theorem zR (t:Tr α) (i j:Nat) (a:α):(t.set i a).get j=if i=j then some a else t.get j:=by
 unfold Tr.set Tr.get
 rw [US]
 by_cases h:i=j
 ·simp [h]
 ·rw [if_neg h,if_neg fun e=>h (dk _ _ e)]
theorem jn (t:Tr α) (i j:Nat):(t.del i).get j=if i=j then none else t.get j:=by
 unfold Tr.del Tr.get
 rw [US]
 by_cases h:i=j
 ·simp [h]
 ·rw [if_neg h,if_neg fun e=>h (dk _ _ e)]
@[simp] theorem get_nil (i:Nat):(Tr.nil:Tr α).get i=none:=by
 unfold Tr.get;cases path i<;>rfl
theorem U9 (l:List α):∀ (t:Tr α) (i j:Nat),(cU l t i).get j=if i≤j∧j<i+l.length then l[j-i]? else t.get j:=by
 induction l with
 | nil=>intro t i j;rw [if_neg (by simp)];rfl
 | cons a l ih=>
  intro t i j
  have h:cU (a::l) t i=cU l (t.set i a) (i+1):=rfl
  rw [h,ih,zR]
  by_cases h1:i+1≤j∧j<i+1+l.length
  ·rw [if_pos h1,if_pos (by simp;omega)]
   have:j-i=(j-(i+1))+1:=by omega
   rw [this,List.getElem?_cons_succ]
  ·rw [if_neg h1]
   by_cases h2:i=j
   ·subst h2;simp
   ·rw [if_neg h2,if_neg (by simp;omega)]
theorem mg (m:List α):∀ j,(alt m true)[j]? = m[2*j]?∧(alt m false)[j]? = m[2*j+1]?:=by
 induction m with
 | nil=>intro j;exact ⟨by simp [alt],by simp [alt]⟩
 | cons a m ih=>
  have e1:alt (a::m) true=a::alt m false:=rfl
  have e2:alt (a::m) false=alt m true:=rfl
  intro j
  rw [e1,e2]
  refine ⟨?_,?_⟩
  ·cases j with
   | zero=>rfl
   | succ j=>
    rw [List.getElem?_cons_succ,(ih j).2,show 2*(j+1)=(2*j+1)+1 from by omega,List.getElem?_cons_succ]
  ·rw [(ih j).1,List.getElem?_cons_succ]
theorem iC (m:List α):(alt m true).length≤m.length∧(alt m false).length≤m.length:=by
 induction m with
 | nil=>exact ⟨Nat.le_refl _,Nat.le_refl _⟩
 | cons a m ih=>
  have e1:alt (a::m) true=a::alt m false:=rfl
  have e2:alt (a::m) false=alt m true:=rfl
  rw [e1,e2,List.length_cons,List.length_cons]
  omega
theorem parts (i:Nat):i=0∨(∃ j,i=2*j+1)∨∃ j,i=2*j+2:=by
 rcases Nat.eq_zero_or_pos i with h | h
 ·exact .inl h
 ·rcases Nat.mod_two_eq_zero_or_one i with h2 | h2
  ·exact .inr (.inr ⟨i / 2-1,by omega⟩)
  ·exact .inr (.inl ⟨i / 2,by omega⟩)
theorem nP:∀ (f:Nat) (l:List α) (j:Nat),l.length≤f→(build f l).get j=l[j]?:=by
 intro f
 induction f with
 | zero=>
  intro l j h
  cases l with
  | nil=>show (Tr.nil:Tr α).get j=_;rw [get_nil];simp
  | cons a l=>simp at h
 | succ f ih=>
  intro l j h
  cases l with
  | nil=>show (Tr.nil:Tr α).get j=_;rw [get_nil];simp
  | cons a m=>
   have e:build (f+1) (a::m) = .node (build f (alt m true)) (some a) (build f (alt m false)):=rfl
   have hl:=iC m
   simp only [List.length_cons]at h
   rw [e]
   rcases parts j with rfl | ⟨k,rfl⟩ | ⟨k,rfl⟩
   ·rw [yC];rfl
   ·rw [ki,ih _ _ (by omega),(mg m k).1,List.getElem?_cons_succ]
   ·rw [jQ,ih _ _ (by omega),(mg m k).2,show 2*k+2=(2*k+1)+1 from rfl,List.getElem?_cons_succ]
theorem dL (l:List α):∀ n,qT l n=l.length+n:=by
 induction l with
 | nil=>intro n;show n=_;simp
 | cons a l ih=>intro n;show qT l (n+1)=_;rw [ih];simp;omega
theorem qV (l:List α) (j:Nat):(ofList l).get j=l[j]?:=by
 unfold ofList
 rw [z7,dL,zu]
 split
 ·rw [U9]
  by_cases h:j<l.length
  ·rw [if_pos (by omega)];simp
  ·rw [if_neg (by omega),get_nil,List.getElem?_eq_none (by omega)]
 ·exact nP _ _ _ (by omega)
theorem uT (t:Tr α) (j:Nat):(lft t).get j=t.get (2*j+1):=by
 cases t with
 | nil=>show (Tr.nil:Tr α).get j=_;rw [get_nil,get_nil]
 | node l v r=>rw [ki];rfl
theorem uS (t:Tr α) (j:Nat):(rgt t).get j=t.get (2*j+2):=by
 cases t with
 | nil=>show (Tr.nil:Tr α).get j=_;rw [get_nil,get_nil]
 | node l v r=>rw [jQ];rfl
theorem uR (t:Tr α):top t=t.get 0:=by
 cases t with
 | nil=>rw [get_nil];rfl
 | node l v r=>rfl
theorem sD (u:Tr α) (lo hi:Nat):∀ (f:Nat) (t:Tr α) (a s:Nat),hi<f+a→0<s→∀ j,(over u lo hi f t a s).get j=if lo≤a+s*j∧a+s*j<hi then u.get (a+s*j-lo) else t.get j:=by
 intro f
 induction f with
 | zero=>
  intro t a s h hs j
  rw [if_neg (by have:a≤a+s*j:=Nat.le_add_right _ _;omega)]
  rfl
 | succ f ih=>
  intro t a s h hs j
  have e:over u lo hi (f+1) t a s=ifB (Nat.ble hi a) t (.node (over u lo hi f (lft t) (a+s) (s+s)) (ifB (Nat.ble lo a) (u.get (a-lo)) (top t)) (over u lo hi f (rgt t) (a+s+s) (s+s))):=rfl
  rw [e,zu,zN]
  by_cases hb:hi≤a
  ·rw [if_pos (decide_eq_true hb),if_neg (by have:a≤a+s*j:=Nat.le_add_right _ _;omega)]
  ·rw [if_neg (by simpa using hb)]
   rcases parts j with rfl | ⟨k,rfl⟩ | ⟨k,rfl⟩
   ·rw [yC,zu,zN]
    simp only [Nat.mul_zero,Nat.add_zero]
    by_cases hl:lo≤a
    ·rw [if_pos (decide_eq_true hl),if_pos ⟨hl,by omega⟩]
    ·rw [if_neg (by simpa using hl),if_neg (by omega),uR]
   ·have e2:s*(2*k+1)=s+(s+s)*k:=by
     rw [Nat.mul_add,Nat.add_mul,← Nat.mul_assoc,Nat.mul_comm s 2,Nat.mul_one,Nat.two_mul,Nat.add_mul];omega
    rw [ki,ih _ _ _ (by omega) (by omega),uT,e2,Nat.add_assoc]
   ·have e2:s*(2*k+2)=s+s+(s+s)*k:=by
     rw [Nat.mul_add,Nat.add_mul,← Nat.mul_assoc,Nat.mul_comm s 2,Nat.two_mul,Nat.add_mul];omega
    rw [jQ,ih _ _ _ (by omega) (by omega),uS,e2]
    simp only [Nat.add_assoc]
theorem Kv (l:List α) (t:Tr α) (i j:Nat):(mT l t i).get j=if i≤j∧j<i+l.length then l[j-i]? else t.get j:=by
 unfold mT
 rw [z7,dL,zu]
 split
 ·exact U9 l t i j
 ·rw [z7,sD _ _ _ _ _ _ _ (by omega) (by decide)]
  simp only [Nat.zero_add,Nat.one_mul,Nat.add_zero]
  rw [show Nat.add i l.length=i+l.length from rfl,qV]
theorem gA (n:Nat):∀ (t:Tr α) (i:Nat) (l:List α),jF n t i=some l→l.length=n∧∀ k,k<n→t.get (i+k)=l[k]?:=by
 induction n with
 | zero=>intro t i l h;cases h;exact ⟨rfl,fun k hk=>by omega⟩
 | succ n ih=>
  intro t i l h
  have e:jF (n+1) t i=bnd (t.get i) fun a=>bnd (jF n t (i+1)) fun l=>some (a::l):=rfl
  rw [e]at h
  obtain ⟨a,ha,h⟩:=zf h
  obtain ⟨m,hm,h⟩:=zf h
  cases h
  obtain ⟨h1,h2⟩:=ih _ _ _ hm
  refine ⟨by simp [h1],fun k hk=>?_⟩
  cases k with
  | zero=>simpa using ha
  | succ k=>have:=h2 k (by omega);rw [List.getElem?_cons_succ,← this];congr 1;omega
theorem nN (t:Tr α):∀ (h k i:Nat),jF (h+k) t i=bnd (jF h t i) fun l=>bnd (jF k t (i+h)) fun m=>some (l++m):=by
 intro h
 induction h with
 | zero=>
  intro k i
  rw [Nat.zero_add]
  show _=bnd (jF k t (i+0)) fun m=>some ([]++m)
  rw [Nat.add_zero]
  cases jF k t i<;>rfl
 | succ h ih=>
  intro k i
  rw [show h+1+k=(h+k)+1 from by omega]
  show (bnd (t.get i) fun a=>bnd (jF (h+k) t (i+1)) fun l=>some (a::l))=bnd (bnd (t.get i) fun a=>bnd (jF h t (i+1)) fun l=>some (a::l)) fun l=>bnd (jF k t (i+(h+1))) fun m=>some (l++m)
  rw [ih k (i+1),show i+1+h=i+(h+1) from by omega]
  cases t.get i with
  | none=>rfl
  | some a=>
   show (bnd (bnd (jF h t (i+1)) fun l=>bnd (jF k t (i+(h+1))) fun m=>some (l++m)) fun l=>some (a::l))=bnd (bnd (jF h t (i+1)) fun l=>some (a::l)) fun l=>bnd (jF k t (i+(h+1))) fun m=>some (l++m)
   cases jF h t (i+1) with
   | none=>rfl
   | some l=>
    show (bnd (bnd (jF k t (i+(h+1))) fun m=>some (l++m)) fun l=>some (a::l))=bnd (jF k t (i+(h+1))) fun m=>some (a::l++m)
    cases jF k t (i+(h+1))<;>rfl
theorem cj (l m:List α):jv l m=l++m:=by
 induction l with
 | nil=>rfl
 | cons a l ih=>show a::jv l m=_;rw [ih];rfl
theorem sB (t:Tr α):∀ (f n i:Nat),eg f n t i=jF n t i:=by
 intro f
 induction f with
 | zero=>intro n i;rfl
 | succ f ih=>
  intro n i
  have e:eg (f+1) n t i=ifB (Nat.ble n 32) (jF n t i) (bnd (eg f (n / 2) t i) fun l=>bnd (eg f (n-n / 2) t (i+n / 2)) fun m=>some (jv l m)):=rfl
  rw [e,zu]
  split
  ·rfl
  ·rw [ih,ih]
   have h:=nN t (n / 2) (n-n / 2) i
   rw [show n / 2+(n-n / 2)=n from by omega]at h
   rw [h]
   simp only [cj]
theorem lO (n:Nat) (t:Tr α) (i:Nat):bC n t i=jF n t i:=sB t 20 n i
theorem kh (n:Nat) (t:Tr α) (i:Nat) (l:List α) (h:bC n t i=some l):l.length=n∧∀ k,k<n→t.get (i+k)=l[k]?:=gA n t i l (by rw [← lO];exact h)
end Tr
theorem lE {α:Type} (l:List α):∀ n,qT l n=l.length+n:=by
 induction l with
 | nil=>intro n;show n=_;simp
 | cons a l ih=>intro n;show qT l (n+1)=_;rw [ih];simp;omega
@[simp] theorem jz {α:Type} (l:List α):qT l 0=l.length:=by rw [lE];rfl
@[simp] theorem qy {α:Type} (l m:List α):jv l m=l++m:=by
 induction l with
 | nil=>rfl
 | cons a l ih=>show a::jv l m=_;rw [ih];rfl
@[simp] theorem jA {α β:Type} (f:α→β) (l:List α):mapA f l=l.map f:=by
 induction l with
 | nil=>rfl
 | cons a l ih=>show f a::mapA f l=_;rw [ih];rfl
@[simp] theorem YG {α:Type} (n:Nat):∀ l:List α,VM n l=l.take n:=by
 induction n with
 | zero=>intro l;rw [List.take_zero];rfl
 | succ n ih=>intro l;cases l with
  | nil=>rfl
  | cons a l=>show a::VM n l=_;rw [ih];rfl
@[simp] theorem KD {α:Type} (n:Nat):∀ l:List α,ag n l=l.drop n:=by
 induction n with
 | zero=>intro l;rfl
 | succ n ih=>intro l;cases l with
  | nil=>rfl
  | cons a l=>show ag n l=_;rw [ih];rfl
@[simp] theorem kb {α:Type} (n:Nat):∀ l:List α,ZY n l=l[n]?:=by
 induction n with
 | zero=>intro l;cases l<;>rfl
 | succ n ih=>intro l;cases l with
  | nil=>rfl
  | cons a l=>show ZY n l=_;rw [ih];rfl
theorem Ze (p:zd→Bool) (l:List zd):ZF p l=l.all p:=by
 induction l with
 | nil=>rfl
 | cons a l ih=>show ifB (p a) (ZF p l) false=_;rw [ih];cases h:p a<;>simp [h]
theorem iZ (z:List zd) (n:Nat):yY z n=(List.replicate n z).flatten:=by
 induction n with
 | zero=>rfl
 | succ n ih=>show jv z (yY z n)=_;rw [ih,qy,List.replicate_succ,List.flatten_cons]
theorem ZP (a b:Int):Uk a b=(a==b):=by
 cases a<;>cases b<;>simp only [Uk,yp,kf,zG]<;>rw [Bool.eq_iff_iff]<;>simp<;>omega
theorem Yp (a b:Int):ilt a b=decide (a<b):=by
 cases a<;>cases b<;>simp only [ilt,yp,kf,qo]<;>rw [Bool.eq_iff_iff]<;>simp<;>omega
theorem Vo (a:List Nat):∀ b,dM a b=(a==b):=by
 induction a with
 | nil=>intro b;cases b<;>rfl
 | cons x a ih=>
  intro b
  cases b with
  | nil=>rfl
  | cons y b=>
   show ifB (Nat.beq x y) (dM a b) false=_
   rw [ih,zG,zu]
   by_cases h:x=y<;>simp [h]
theorem YX (a b:IntKind):rZ a b=true↔a=b:=by cases a<;>cases b<;>decide
mutual
theorem zX:∀ (a b:zd),qs a b=true→a=b
 | .bool a,b=>by cases b<;>simp [qs,QV]
 | .int k a,b=>by
  cases b<;>simp [qs,zB,ZP,YX]
 | .str s,b=>by cases b<;>simp [qs,Vo]
 | .nilp,b=>by cases b<;>simp [qs]
 | .ptr x y,b=>by
  cases b<;>simp [qs,zB]
 | .nilslice,b=>by cases b<;>simp [qs]
 | .slice x y z u v,b=>by
  cases b<;>simp [qs,zB,QV]
 | .nilmap,b=>by cases b<;>simp [qs]
 | .map r,b=>by cases b<;>simp [qs]
 | .fn f l m,b=>by
  cases b<;>simp [qs,zB]
  intro h1 h2 h3;exact ⟨h1,jZ _ _ h2,jZ _ _ h3⟩
 | .yieldf l,b=>by cases b<;>simp [qs]
 | .capv x y,b=>by
  cases b<;>simp [qs,zB]
 | .nilfn,b=>by cases b<;>simp [qs]
 | .iface t v,b=>by
  cases b<;>simp [qs,zB]
  intro h1 h2;exact ⟨h1,zX _ _ h2⟩
 | .niliface,b=>by cases b<;>simp [qs]
 | .agg l,b=>by
  cases b<;>simp [qs]
  intro h;exact jZ _ _ h
 | .tuple l,b=>by
  cases b<;>simp [qs]
  intro h;exact jZ _ _ h
 | .sym i,b=>by cases b<;>simp [qs]
 | .esl x y z,b=>by cases b<;>simp [qs,zB]
 | .osl x v,b=>by
  cases b<;>simp [qs,zB]
  intro h1 h2;exact ⟨h1,zX _ _ h2⟩
 | .psl a b c d e,v=>by cases v<;>simp [qs,zB,QV]
theorem jZ:∀ (a b:List zd),yg a b=true→a=b
 | [],b=>by cases b<;>simp [yg]
 | x::l,b=>by
  cases b with
  | nil=>simp [yg]
  | cons y m=>
   simp [yg,zB]
   intro h1 h2;exact ⟨zX _ _ h1,jZ _ _ h2⟩
end
end
section
theorem fw (a k:Nat):Nat.shiftLeft a k=a*2 ^ k:=Nat.shiftLeft_eq a k
theorem fv (a k:Nat):Nat.shiftRight a k=a / 2 ^ k:=Nat.shiftRight_eq_div_pow a k
theorem jr (N i:Nat):byteOf N i=N / 2 ^ (8*i) % 256:=by
 unfold byteOf
 rw [fv];rfl
theorem oe (N i:Nat):byteOf N i<256:=by rw [jr];exact Nat.mod_lt _ (by decide)
theorem iQ (N o l:Nat):Qy N o l=N / 2 ^ (8*o) % 2 ^ (8*l):=by
 unfold Qy
 rw [fv,fw,Nat.one_mul];rfl
theorem Vv (n S M:Nat):Wa n S M=S+M*2 ^ (8*n):=by
 unfold Wa
 rw [fw];rfl
theorem XS {i l:Nat} (h:i≤l):2 ^ (8*l)=2 ^ (8*i)*2 ^ (8*(l-i)):=by
 rw [← Nat.pow_add];congr 1;omega
theorem sM {k:Nat} (h:1≤k):256 ∣ 2 ^ (8*k):=by
 have:2 ^ (8*k)=256*2 ^ (8*(k-1)):=by
  rw [show (256:Nat)=2 ^ 8 from rfl,← Nat.pow_add];congr 1;omega
 rw [this];exact Nat.dvd_mul_right _ _
theorem Yt {N o l i:Nat} (h:i<l):byteOf (Qy N o l) i=byteOf N (o+i):=by
 rw [jr,jr,iQ,XS (Nat.le_of_lt h),Nat.mod_mul_right_div_self,Nat.mod_mod_of_dvd _ (sM (by omega)),Nat.div_div_eq_div_mul,← Nat.pow_add]
 congr 3;omega
theorem sub_lt (N o l:Nat):Qy N o l<2 ^ (8*l):=by rw [iQ];exact Nat.mod_lt _ (Nat.pow_pos (by decide))
theorem QT {n S M i:Nat} (hS:S<2 ^ (8*n)):byteOf (Wa n S M) i=if i<n then byteOf S i else byteOf M (i-n):=by
 rw [jr,Vv]
 by_cases h:i<n
 ·rw [if_pos h,jr,XS (Nat.le_of_lt h),Nat.mul_comm M,Nat.mul_assoc,Nat.add_mul_div_left _ _ (Nat.pow_pos (by decide))]
  obtain ⟨k,hk⟩:=sM (k:=n-i) (by omega)
  rw [hk,Nat.mul_assoc,Nat.add_mul_mod_self_left]
 ·rw [if_neg h,jr,XS (show n≤i by omega),← Nat.div_div_eq_div_mul,Nat.add_mul_div_right _ _ (Nat.pow_pos (by decide)),Nat.div_eq_of_lt hS,Nat.zero_add]
theorem Yu (N k i:Nat):byteOf (Nat.shiftRight N (8*k)) i=byteOf N (k+i):=by
 rw [jr,jr,fv,Nat.div_div_eq_div_mul,← Nat.pow_add]
 congr 3;omega
namespace Tr
variable {α:Type}
theorem sC (f:Nat→α):∀ (d a s n j:Nat),n≤d→(tree f d a s n).get j=if j<n then some (f (a+s*j)) else none:=by
 intro d
 induction d with
 | zero=>
  intro a s n j h
  have:n=0:=by omega
  subst this
  rw [if_neg (by omega)]
  exact get_nil j
 | succ d ih=>
  intro a s n j h
  cases n with
  | zero=>rw [if_neg (by omega)];exact get_nil j
  | succ m=>
   have e:tree f (d+1) a s (m+1) = .node (tree f d (a+s) (s+s) ((m+1) / 2)) (some (f a)) (tree f d (a+s+s) (s+s) (m / 2)):=rfl
   rw [e]
   rcases parts j with rfl | ⟨k,rfl⟩ | ⟨k,rfl⟩
   ·rw [yC,if_pos (by omega),Nat.mul_zero,Nat.add_zero]
   ·have e2:s*(2*k+1)=s+(s+s)*k:=by
     rw [Nat.mul_add,Nat.add_mul,← Nat.mul_assoc,Nat.mul_comm s 2,Nat.mul_one,Nat.two_mul,Nat.add_mul];omega
    rw [ki,ih _ _ _ _ (by omega),e2,Nat.add_assoc]
    by_cases hk:k<(m+1) / 2
    ·rw [if_pos hk,if_pos (by omega)]
    ·rw [if_neg hk,if_neg (by omega)]
   ·have e2:s*(2*k+2)=s+s+(s+s)*k:=by
     rw [Nat.mul_add,Nat.add_mul,← Nat.mul_assoc,Nat.mul_comm s 2,Nat.two_mul,Nat.add_mul];omega
    rw [jQ,ih _ _ _ _ (by omega),e2]
    by_cases hk:k<m / 2
    ·rw [if_pos hk,if_pos (by omega)];simp only [Nat.add_assoc]
    ·rw [if_neg hk,if_neg (by omega)]
end Tr
theorem JV (n N i:Nat):(unp n N).get i=if i<n then some (.int .u8 (.ofNat (byteOf N i))) else none:=by
 unfold unp
 rw [Tr.sC _ _ _ _ _ _ (Nat.le_refl n)]
 simp only [Nat.zero_add,Nat.one_mul]
 rfl
theorem unp0_get:∀ (n N i:Nat),i<n→(unp0 n N)[i]? = some (byteOf N i)
 | 0,_,_,h=>by omega
 | n+1,N,i,h=>by
  have e:unp0 (n+1) N=(N % 256)::unp0 n (Nat.shiftRight N 8):=rfl
  rw [e]
  cases i with
  | zero=>simp [jr]
  | succ i=>
   rw [List.getElem?_cons_succ,unp0_get n _ i (by omega)]
   have:=Yu N 1 i
   rw [show 8*1=8 from rfl]at this
   rw [this,Nat.add_comm 1 i]
theorem unp0_length:∀ (n N:Nat),(unp0 n N).length=n
 | 0,_=>rfl
 | n+1,N=>by
  have e:unp0 (n+1) N=(N % 256)::unp0 n (Nat.shiftRight N 8):=rfl
  rw [e,List.length_cons,unp0_length n]
theorem unpH_ok:∀ (f n N:Nat),(unpH f n N).length=n∧∀ i,i<n→(unpH f n N)[i]? = some (byteOf N i)
 | 0,n,N=>⟨unp0_length n N,fun i h=>unp0_get n N i h⟩
 | f+1,n,N=>by
  have e:unpH (f+1) n N=ifB (Nat.ble n 8) (unp0 n N) (jv (unpH f (n / 2) (Qy N 0 (n / 2))) (unpH f (n-n / 2) (Nat.shiftRight N (8*(n / 2))))):=rfl
  rw [e,zu]
  split
  ·exact ⟨unp0_length n N,fun i h=>unp0_get n N i h⟩
  ·obtain ⟨a1,a2⟩:=unpH_ok f (n / 2) (Qy N 0 (n / 2))
   obtain ⟨b1,b2⟩:=unpH_ok f (n-n / 2) (Nat.shiftRight N (8*(n / 2)))
   rw [Tr.cj]
   refine ⟨by rw [List.length_append,a1,b1];omega,fun i h=>?_⟩
   by_cases hi:i<n / 2
   ·rw [List.getElem?_append_left (by omega),a2 i hi,Yt hi,Nat.zero_add]
   ·rw [List.getElem?_append_right (by omega),a1,b2 _ (by omega),Yu]
    congr 2;omega
theorem unpB_eq:∀ (n N:Nat) (r:List Nat),unpB n N r=unp0 n N++r
 | 0,_,_=>rfl
 | n+1,N,r=>by
  have e:unpB (n+1) N r=(N % 256)::unpB n (Nat.shiftRight N 8) r:=rfl
  have e2:unp0 (n+1) N=(N % 256)::unp0 n (Nat.shiftRight N 8):=rfl
  rw [e,e2,unpB_eq n,List.cons_append]
theorem unpA_eq:∀ (f n N:Nat) (r:List Nat),unpA f n N r=unpH f n N++r
 | 0,n,N,r=>unpB_eq n N r
 | f+1,n,N,r=>by
  have e:unpA (f+1) n N r=ifB (Nat.ble n 8) (unpB n N r) (unpA f (n / 2) (Qy N 0 (n / 2)) (unpA f (n-n / 2) (Nat.shiftRight N (8*(n / 2))) r)):=rfl
  have e2:unpH (f+1) n N=ifB (Nat.ble n 8) (unp0 n N) (jv (unpH f (n / 2) (Qy N 0 (n / 2))) (unpH f (n-n / 2) (Nat.shiftRight N (8*(n / 2))))):=rfl
  rw [e,e2,zu,zu]
  split
  ·exact unpB_eq n N r
  ·rw [unpA_eq f,unpA_eq f,Tr.cj,List.append_assoc]
theorem unpL_eq (n N:Nat):unpL n N=unpH 20 n N:=by
 unfold unpL
 rw [unpA_eq,List.append_nil]
theorem unpL_length (n N:Nat):(unpL n N).length=n:=by rw [unpL_eq];exact (unpH_ok 20 n N).1
theorem unpL_get {n N i:Nat} (h:i<n):(unpL n N)[i]? = some (byteOf N i):=by rw [unpL_eq];exact (unpH_ok 20 n N).2 i h
theorem unpL_lt (n N:Nat):∀ b∈unpL n N,b<256:=by
 intro b hb
 obtain ⟨i,hi,rfl⟩:=List.getElem_of_mem hb
 rw [unpL_length]at hi
 have:=unpL_get (N:=N) hi
 rw [List.getElem?_eq_getElem (by rw [unpL_length];exact hi)]at this
 rw [Option.some.inj this]
 exact oe _ _
theorem fM (b:Nat) (l:List Nat) (acc k:Nat):Q5 (b::l) acc k=Q5 l (acc+b*2 ^ k) (k+8):=by
 show Q5 l (Nat.add acc (Nat.shiftLeft b k)) (k+8)=_
 rw [fw];rfl
theorem dm:∀ (l:List Nat) (acc n:Nat),(∀ b∈l,b<256)→acc<2 ^ (8*n) →
  Q5 l acc (8*n)<2 ^ (8*(n+l.length))∧∀ i,byteOf (Q5 l acc (8*n)) i=if i<n then byteOf acc i else (l[i-n]?).getD 0
 | [],acc,n,_,ha=>by
  have e:Q5 [] acc (8*n)=acc:=rfl
  rw [e]
  refine ⟨ha,fun i=>?_⟩
  by_cases h:i<n
  ·rw [if_pos h]
  ·rw [if_neg h,jr,Nat.div_eq_of_lt]
   ·rfl
   ·exact Nat.lt_of_lt_of_le ha (Nat.pow_le_pow_right (by decide) (by omega))
 | b::l,acc,n,hl,ha=>by
  have hb:=hl b List.mem_cons_self
  have e1:acc+b*2 ^ (8*n)=Wa n acc b:=(Vv n acc b).symm
  have hlt:Wa n acc b<2 ^ (8*(n+1)):=by
   rw [Vv,show 8*(n+1)=8*n+8 from by omega,Nat.pow_add]
   have:b*2 ^ (8*n)≤255*2 ^ (8*n):=Nat.mul_le_mul_right _ (by omega)
   have e:2 ^ (8*n)*2 ^ 8=256*2 ^ (8*n):=by rw [Nat.mul_comm]
   rw [e]
   omega
  rw [fM,e1,show 8*n+8=8*(n+1) from by omega]
  obtain ⟨h1,h2⟩:=dm l (Wa n acc b) (n+1) (fun x hx=>hl x (List.mem_cons_of_mem _ hx)) hlt
  refine ⟨by rw [List.length_cons,show n+(l.length+1)=n+1+l.length from by omega];exact h1,fun i=>?_⟩
  rw [h2,QT ha]
  by_cases h:i<n
  ·rw [if_pos (by omega),if_pos h,if_pos h]
  ·by_cases h3:i=n
   ·subst h3
    rw [if_pos (by omega),if_neg h,if_neg h,Nat.sub_self]
    simp [jr,Nat.mod_eq_of_lt hb]
   ·rw [if_neg (by omega),if_neg h,show i-n=(i-(n+1))+1 from by omega,List.getElem?_cons_succ]
end
section
def df (v:Value):Bool:=match v with | .agg _=>false | .tuple _=>false | _=>true
class Unk where
 val:Nat→Value
 plain:∀ i,df (val i)=true
 place:Nat→Nat×Nat×Nat
 glob:∀ g,g<60→place g=(g,0,0)
variable [Unk]
abbrev Inj:=Nat→Option (Nat×Nat×Nat)
def Inj.blk (β:Inj) (b:Nat):Nat:=((β b).getD (0,0,0)).1
def Inj.sh (β:Inj) (b:Nat):Nat:=((β b).getD (0,0,0)).2.1
def Inj.ext (β:Inj) (b:Nat):Nat:=((β b).getD (0,0,0)).2.2
def Inj.addr (β:Inj) (b off:Nat):Addr:=⟨β.blk b,β.sh b+off,none⟩
def str (s:List Nat):ByteArray:=⟨(s.map UInt8.ofNat).toArray⟩
def kOf:Nat→Option IntKind
 | 0=>some .i8 | 1=>some .i16 | 2=>some .i32 | 3=>some .i64 | 4=>some .u8 | 5=>some .u16 | 6=>some .u32 | 7=>some .u64 | _=>none
def strOf:Nat→Nat→List UInt8
 | 0,_=>[]
 | f+1,n=>if n≤1 then [] else UInt8.ofNat (n % 256)::strOf f (n / 256)
def yk (x:Nat×Nat×Nat):Value:=
 match x.2.1 with
 | 0=>Unk.val x.1
 | m+1=>
  match kOf x.1 with
  | some k=>.int k ((m:Int)-x.2.2)
  | none=>match x.1 with
   | 9=>.bool (m==1)
   | _=>.string ⟨(strOf m m).toArray⟩
theorem VO (x:Nat×Nat×Nat):df (yk x)=true:=by
 unfold yk
 split
 ·exact Unk.plain _
 ·split
  ·rfl
  ·split<;>rfl
def sOf (v:Value):ByteArray:=match v with | .string s=>s | _=>.empty
def rr (v:Value):Nat:=match v with | .int _ n=>n.toNat | _=>0
mutual
def zh (β:Inj):zd→Value
 | .bool b=>.bool b
 | .int k n=>.int k n
 | .str s=>.string (str s)
 | .nilp=>.pointer none
 | .ptr b off=>.pointer (some (β.addr b off))
 | .nilslice=>.slice none 0 0
 | .slice b off l c ex=>.slice (some (β.addr b off)) l (if ex then c else c+β.ext b)
 | .nilmap=>.map none
 | .map r=>.map (some (β.blk r))
 | .fn f l m=>.func (.func f) (zq β l).toArray (zq β m).toArray
 | .yieldf l=>.func (.yield (β.blk l)) #[] #[]
 | .capv b c=>.int .i64 ((c+β.ext b:Nat):Int)
 | .nilfn=>.nilFunc
 | .iface t v=>.iface t (zh β v)
 | .niliface=>.nilIface
 | .agg l=>.agg (zq β l).toArray
 | .tuple l=>.tuple (zq β l).toArray
 | .sym i=>yk ((β i).getD (0,0,0))
 | .esl b o q=>.slice (some (if β.ext b=0 then β.addr b o else β.addr b q)) 0 (β.ext b)
 | .osl b v=>.slice (some (β.addr b 0)) (sOf (zh β v)).size (β.ext b)
 | .psl b o q c ex=>.slice (some (β.addr b o)) (rr (yk ((β q).getD (0,0,0)))) (if ex then c else c+β.ext b)
def zq (β:Inj):List zd→List Value
 | []=>[]
 | v::l=>zh β v::zq β l
end
mutual
def WF (β:Inj):zd→Prop
 | .str s=>∀ b∈s,b<256
 | .ptr b _=>(β b).isSome
 | .slice b _ l c _=>(β b).isSome∧l≤c
 | .map r=>(β r).isSome
 | .fn _ l m=>WFs β l∧WFs β m
 | .yieldf l=>(β l).isSome
 | .capv b _=>(β b).isSome
 | .iface _ v=>WF β v
 | .agg l=>WFs β l
 | .tuple l=>WFs β l
 | .sym i=>(β i).isSome
 | .esl b _ _=>(β b).isSome
 | .osl b v=>(β b).isSome∧WF β v∧∃ s,zh β v = .string s∧s.size≤β.ext b
 | .psl b _ q c _=>(β b).isSome∧(β q).isSome∧∃ n:Nat,yk ((β q).getD (0,0,0)) = .int .i64 (n:Int)∧n≤c
 | _=>True
def WFs (β:Inj):List zd→Prop
 | []=>True
 | v::l=>WF β v∧WFs β l
end
theorem zK (β:Inj) (l:List zd):zq β l=l.map (zh β):=by
 induction l with
 | nil=>rfl
 | cons a l ih=>rw [zq,ih];rfl
theorem jb (β:Inj) (l:List zd):WFs β l↔∀ v∈l,WF β v:=by
 induction l with
 | nil=>simp [WFs]
 | cons a l ih=>rw [WFs,ih];simp
def Inj.le (β β':Inj):Prop:=∀ id x,β id=some x→β' id=some x
theorem Inj.le.refl (β:Inj):β.le β:=fun _ _ h=>h
theorem Inj.le.trans {a b c:Inj} (h:a.le b) (k:b.le c):a.le c:=fun _ _ e=>k _ _ (h _ _ e)
theorem Inj.le.some {β β':Inj} (h:β.le β') {b:Nat} (hb:(β b).isSome):β' b=β b:=by
 obtain ⟨x,hx⟩:=Option.isSome_iff_exists.1 hb
 rw [hx];exact h _ _ hx
mutual
theorem WF.mono {β β':Inj} (h:β.le β'):∀ v,WF β v→WF β' v∧zh β' v=zh β v
 | .bool _,_=>⟨trivial,rfl⟩
 | .int _ _,_=>⟨trivial,rfl⟩
 | .str _,w=>⟨by simpa [WF] using w,rfl⟩
 | .nilp,_=>⟨trivial,rfl⟩
 | .ptr b _,w=>by
  simp only [WF]at w ⊢
  have e:=h.some w
  exact ⟨e ▸ w,by simp [zh,Inj.addr,Inj.blk,Inj.sh,e]⟩
 | .nilslice,_=>⟨trivial,rfl⟩
 | .slice b _ _ _ _,w=>by
  simp only [WF]at w ⊢
  have e:=h.some w.1
  exact ⟨⟨e ▸ w.1,w.2⟩,by simp [zh,Inj.addr,Inj.blk,Inj.sh,Inj.ext,e]⟩
 | .nilmap,_=>⟨trivial,rfl⟩
 | .map r,w=>by
  simp only [WF]at w ⊢
  have e:=h.some w
  exact ⟨e ▸ w,by simp [zh,Inj.blk,e]⟩
 | .fn f l m,w=>by
  simp only [WF]at w ⊢
  obtain ⟨a1,a2⟩:=WFs.mono h l w.1
  obtain ⟨b1,b2⟩:=WFs.mono h m w.2
  exact ⟨⟨a1,b1⟩,by simp [zh,a2,b2]⟩
 | .yieldf l,w=>by
  simp only [WF]at w ⊢
  have e:=h.some w
  exact ⟨e ▸ w,by simp [zh,Inj.blk,e]⟩
 | .capv b _,w=>by
  simp only [WF]at w ⊢
  have e:=h.some w
  exact ⟨e ▸ w,by simp [zh,Inj.ext,e]⟩
 | .nilfn,_=>⟨trivial,rfl⟩
 | .iface t v,w=>by
  simp only [WF]at w ⊢
  obtain ⟨a1,a2⟩:=WF.mono h v w
  exact ⟨a1,by simp [zh,a2]⟩
 | .niliface,_=>⟨trivial,rfl⟩
 | .agg l,w=>by
  simp only [WF]at w ⊢
  obtain ⟨a1,a2⟩:=WFs.mono h l w
  exact ⟨a1,by simp [zh,a2]⟩
 | .tuple l,w=>by
  simp only [WF]at w ⊢
  obtain ⟨a1,a2⟩:=WFs.mono h l w
  exact ⟨a1,by simp [zh,a2]⟩
 | .sym i,w=>by
  simp only [WF]at w ⊢
  have e:=h.some w
  exact ⟨e ▸ w,by simp [zh,e]⟩
 | .esl b _ _,w=>by
  simp only [WF]at w ⊢
  have e:=h.some w
  have e1:β'.ext b=β.ext b:=by simp [Inj.ext,e]
  have e2:∀ o,β'.addr b o=β.addr b o:=fun o=>by simp [Inj.addr,Inj.blk,Inj.sh,e]
  exact ⟨e ▸ w,by simp only [zh,e1,e2]⟩
 | .osl b v,w=>by
  simp only [WF]at w ⊢
  obtain ⟨w1,w2,s,w3,w4⟩:=w
  have e:=h.some w1
  have e1:β'.ext b=β.ext b:=by simp [Inj.ext,e]
  have e2:∀ o,β'.addr b o=β.addr b o:=fun o=>by simp [Inj.addr,Inj.blk,Inj.sh,e]
  obtain ⟨a1,a2⟩:=WF.mono h v w2
  exact ⟨⟨e ▸ w1,a1,s,by rw [a2];exact w3,by rw [e1];exact w4⟩,by simp only [zh,e1,e2,a2]⟩
 | .psl b o q c x,w=>by
  simp only [WF]at w ⊢
  obtain ⟨w1,w2,n,w3,w4⟩:=w
  have e:=h.some w1
  have f:=h.some w2
  have e1:β'.ext b=β.ext b:=by simp [Inj.ext,e]
  have e2:∀ o,β'.addr b o=β.addr b o:=fun o=>by simp [Inj.addr,Inj.blk,Inj.sh,e]
  exact ⟨⟨e ▸ w1,f ▸ w2,n,by rw [f];exact w3,w4⟩,by simp only [zh,e1,e2,f]⟩
theorem WFs.mono {β β':Inj} (h:β.le β'):∀ l,WFs β l→WFs β' l∧zq β' l=zq β l
 | [],_=>⟨trivial,rfl⟩
 | v::l,w=>by
  simp only [WFs]at w ⊢
  obtain ⟨a1,a2⟩:=WF.mono h v w.1
  obtain ⟨b1,b2⟩:=WFs.mono h l w.2
  exact ⟨⟨a1,b1⟩,by simp [zq,a2,b2]⟩
end
@[simp] theorem QR (β:Inj):zh β qN=undef:=by simp [qN,zh,zq,undef]
@[simp] theorem DR (β:Inj):WF β qN:=by simp [qN,WF,WFs]
def jC (P:Program) (t:TypeId):Nat:=((P.types[t]?).map (·.size)).getD 0
structure kq (P:Program) (β:Inj) (t:TypeId) (n:Nat) (c:Tr zd) (sh ext:Nat) (arr:Array Value) (fz:Nat×Nat):Prop where
 size:sh+n+ext*jC P t≤arr.size
 cell:∀ i v,c.get i=some v→WF β v∧arr[sh+i]? = some (zh β v)
 thaw:∀ i,i<arr.size→¬ (fz.1≤i∧i<fz.2)
 al:jC P t ∣ sh
def yI (β:Inj) (e:zd×zd×Nat):MapEntry:=⟨zh β e.1,zh β e.2.1,e.2.2⟩
noncomputable def tv (T:Tr zd) (i:Nat):zd:=(T.get i).getD qN
def TV (β:Inj) (v:zd) (x:Value):Prop:=WI v=true∨(WF β v∧x=zh β v)
theorem TV.known {β:Inj}{v:zd}{x:Value} (h:TV β v x) (hv:WI v=false):WF β v∧x=zh β v:=by
 rcases h with h | h
 ·rw [hv]at h;cases h
 ·exact h
structure jV (β:Inj) (n:Nat) (T:Tr zd) (arr:Array Value):Prop where
 size:arr.size=n
 tmp:∀ i,TV β (tv T i) (arr.getD i undef)
structure Zf (P:Program) (β:Inj) (k:IntKind) (t:TypeId) (v:zd) (sh ext:Nat) (arr:Array Value) (fz:Nat×Nat):Prop where
 wf:WF β v
 is:∃ s,zh β v = .string s∧s.size≤ext
 size:sh+ext≤arr.size
 cell:∀ i (b:UInt8),(sOf (zh β v)).data[i]? = some b→arr[sh+i]? = some (.int k b.toNat)
 thaw:∀ i,i<arr.size→¬ (fz.1≤i∧i<fz.2)
 one:jC P t=1
def zZ (P:Program) (β:Inj) (b:zJ) (x:Nat×Nat×Nat) (w:World):Prop:=
 match b with
 | .cells t n c=>∃ arr fz,w.heap[x.1]? = some (.cells arr t fz)∧kq P β t n c x.2.1 x.2.2 arr fz
 | .map es clock=>∃ arr,w.heap[x.1]? = some (.map arr clock)∧arr.toList=es.map (yI β)∧∀ e∈es,WF β e.2.1∧WF β e.1∧WH e.1=true
 | .loop st pend fn n T ps assign body=>
  ∃ tmps defers,w.heap[x.1]? = some (.loop { state:=st,pending:=pend,fn:=fn,tmps:=tmps,params:=ps,assign:=assign,body:=body,defers:=defers })∧jV β n T tmps
 | .siter s pos=>w.heap[x.1]? = some (.stringIter (str s) pos)∧x.2.1=0∧∀ b∈s,b<256
 | .text t v=>∃ arr fz,w.heap[x.1]? = some (.cells arr t fz)∧Zf P β .u8 t v x.2.1 x.2.2 arr fz
 | .pack t n N=>∃ arr fz,w.heap[x.1]? = some (.cells arr t fz)∧kq P β t n (unp n N) x.2.1 x.2.2 arr fz
 | .ints t v=>∃ arr fz,w.heap[x.1]? = some (.cells arr t fz)∧Zf P β .i64 t v x.2.1 x.2.2 arr fz
 | .view c=>∃ arr t fz,w.heap[x.1]? = some (.cells arr t fz)∧∀ i v,c.get i=some v→WF β v∧arr[x.2.1+i]? = some (zh β v)
structure Rel (P:Program) (β:Inj) (H:Heap) (w:World):Prop where
 base:100≤H.next
 blk:∀ id b x,H.blk.get id=some b→β id=some x→zZ P β b x w
 inj:∀ id id' b b' x x',H.blk.get id=some b→β id=some x→H.blk.get id'=some b'→β id'=some x'→x.1=x'.1→id=id'∨(id<100∧id'<100)
 bnd:∀ id x,β id=some x→id<H.next
 live:∀ id b,H.blk.get id=some b→id<H.next
theorem Rel.Ja {P:Program}{β:Inj}{H:Heap}{w:World} (h:Rel P β H w) {id id':Nat}{b b':zJ}{x x':Nat×Nat×Nat} (hw:100≤id∨100≤id') (h1:H.blk.get id=some b) (h2:β id=some x)
  (h3:H.blk.get id'=some b') (h4:β id'=some x') (e:x.1=x'.1):id=id':=by
 rcases h.inj id id' b b' x x' h1 h2 h3 h4 e with h | ⟨h,h'⟩
 ·exact h
 ·omega
def Wm (β:Inj) (H:Heap) (c:Nat):Prop:=∃ id b x,H.blk.get id=some b∧β id=some x∧x.1=c
def Range (β:Inj) (H:Heap) (c:Nat):Prop:=∃ id b x,100≤id∧H.blk.get id=some b∧β id=some x∧x.1=c
theorem Range.all {β:Inj}{H:Heap}{c:Nat} (h:Range β H c):Wm β H c:=by
 obtain ⟨i,b,x,_,h⟩:=h
 exact ⟨i,b,x,h⟩
structure Ext (β:Inj) (H:Heap) (w:World) (β':Inj) (H':Heap) (w':World):Prop where
 old:∀ id,id<H.next→β' id=β id
 next:H.next≤H'.next
 apart:∀ id,id<H.next→β id=none→H'.blk.get id=H.blk.get id
 gone:∀ id b,id<H.next→H'.blk.get id=some b→∃ b',H.blk.get id=some b'
 ro:∀ id,id<100→H'.blk.get id=H.blk.get id
 new:∀ id x,H.next≤id→β' id=some x→w.heap.size≤x.1∨Range β H x.1
 frame:∀ c,c<w.heap.size→¬ Range β H c→w'.heap[c]? = w.heap[c]?
 size:w.heap.size≤w'.heap.size
 tape:w'.tape=w.tape
 os:w'.os=w.os
 output:w'.output=w.output
theorem Ext.refl (β:Inj) (H:Heap) (w:World) (hb:∀ id x,β id=some x→id<H.next):Ext β H w β H w where
 old:=fun _ _=>rfl
 next:=Nat.le_refl _
 apart:=fun _ _ _=>rfl
 gone:=fun _ b _ h=>⟨b,h⟩
 ro:=fun _ _=>rfl
 new:=fun id x h e=>absurd (hb _ _ e) (by omega)
 frame:=fun _ _ _=>rfl
 size:=Nat.le_refl _
 tape:=rfl
 os:=rfl
 output:=rfl
theorem Ext.le {β β':Inj}{H H':Heap}{w w':World} (h:Ext β H w β' H' w') (hb:∀ id x,β id=some x→id<H.next):β.le β':=
 fun id x e=>by rw [h.old id (hb _ _ e)];exact e
theorem Ext.trans {β β' β'':Inj}{H H' H'':Heap}{w w' w'':World} (h:Ext β H w β' H' w') (k:Ext β' H' w' β'' H'' w''):Ext β H w β'' H'' w'' where
 old:=fun id hid=>by rw [k.old id (Nat.lt_of_lt_of_le hid h.next),h.old id hid]
 next:=Nat.le_trans h.next k.next
 apart:=fun id hid e=>by rw [k.apart id (Nat.lt_of_lt_of_le hid h.next) (by rw [h.old id hid];exact e),h.apart id hid e]
 gone:=fun id b hid e=>by
  obtain ⟨b',e'⟩:=k.gone id b (Nat.lt_of_lt_of_le hid h.next) e
  exact h.gone id b' hid e'
 ro:=fun id hid=>(k.ro id hid).trans (h.ro id hid)
 new:=fun id x hid e=>by
  have aux:∀ c,Range β' H' c→w.heap.size≤c∨Range β H c:=by
   rintro c ⟨i,b,y,e0,e1,e2,rfl⟩
   by_cases hi:i<H.next
   ·obtain ⟨b',e'⟩:=h.gone i b hi e1
    exact .inr ⟨i,b',y,e0,e',by rw [← h.old i hi];exact e2,rfl⟩
   ·exact h.new i y (by omega) e2
  by_cases hi:id<H'.next
  ·exact h.new id x hid (by rw [← k.old id hi];exact e)
  ·rcases k.new id x (by omega) e with hs | hr
   ·exact .inl (Nat.le_trans h.size hs)
   ·exact aux _ hr
 frame:=fun c hc hr=>by
  rw [k.frame c (Nat.lt_of_lt_of_le hc h.size) ?_,h.frame c hc hr]
  rintro ⟨i,b,y,e0,e1,e2,rfl⟩
  by_cases hi:i<H.next
  ·obtain ⟨b',e'⟩:=h.gone i b hi e1
   exact hr ⟨i,b',y,e0,e',by rw [← h.old i hi];exact e2,rfl⟩
  ·rcases h.new i y (by omega) e2 with hs | hr'
   ·omega
   ·exact hr hr'
 size:=Nat.le_trans h.size k.size
 tape:=k.tape.trans h.tape
 os:=k.os.trans h.os
 output:=k.output.trans h.output
end
section
variable [Unk]
theorem TV.mono {β β':Inj}{v:zd}{x:Value} (h:TV β v x) (l:β.le β'):TV β' v x:=by
 rcases h with h | ⟨a,b⟩
 ·exact .inl h
 ·obtain ⟨c,d⟩:=WF.mono l _ a
  exact .inr ⟨c,by rw [b,d]⟩
theorem jV.mono {β β':Inj}{n:Nat}{T:Tr zd}{arr:Array Value} (h:jV β n T arr) (l:β.le β'):jV β' n T arr where
 size:=h.size
 tmp:=fun i=>(h.tmp i).mono l
theorem kq.mono {P:Program}{β β':Inj}{t:TypeId}{n:Nat}{c:Tr zd}{sh ext:Nat}{arr:Array Value}{fz:Nat×Nat}
  (h:kq P β t n c sh ext arr fz) (l:β.le β'):kq P β' t n c sh ext arr fz where
 size:=h.size
 cell:=fun i v e=>by
  obtain ⟨a,b⟩:=h.cell i v e
  obtain ⟨c,d⟩:=WF.mono l _ a
  exact ⟨c,by rw [b,d]⟩
 thaw:=h.thaw
 al:=h.al
theorem kq.bytes {P:Program}{β β':Inj}{t:TypeId}{n m N:Nat}{sh ext:Nat}{arr:Array Value}{fz:Nat×Nat} (h:kq P β t n (unp m N) sh ext arr fz):kq P β' t n (unp m N) sh ext arr fz where
 size:=h.size
 cell:=fun i v e=>by
  obtain ⟨_,b⟩:=h.cell i v e
  rw [JV]at e
  split at e
  ·cases e;exact ⟨trivial,b⟩
  ·cases e
 thaw:=h.thaw
 al:=h.al
theorem Zf.mono {P:Program}{β β':Inj}{k:IntKind}{t:TypeId}{v:zd}{sh ext:Nat}{arr:Array Value}{fz:Nat×Nat} (h:Zf P β k t v sh ext arr fz) (l:β.le β'):Zf P β' k t v sh ext arr fz:=by
 obtain ⟨a,b⟩:=WF.mono l _ h.wf
 exact ⟨a,by rw [b];exact h.is,h.size,by rw [b];exact h.cell,h.thaw,h.one⟩
theorem KA {β β':Inj} (l:β.le β') (e:zd×zd×Nat) (w:WF β e.2.1) (k:WF β e.1):yI β' e=yI β e:=by
 obtain ⟨_,d⟩:=WF.mono l _ w
 obtain ⟨_,d'⟩:=WF.mono l _ k
 simp [yI,d,d']
theorem Kg {β β':Inj}{v:zd} (h:jE v=true) (w:WF β v):WF β' v∧zh β' v=zh β v:=by
 cases v<;>first | exact ⟨w,rfl⟩ | cases h
theorem WG {β β':Inj}:∀ {l:List zd},l.all jE=true→WFs β l→WFs β' l∧zq β' l=zq β l
 | [],_,_=>⟨trivial,rfl⟩
 | v::l,h,w=>by
  rw [List.all_cons,Bool.and_eq_true]at h
  obtain ⟨a1,a2⟩:=Kg (β':=β') h.1 w.1
  obtain ⟨b1,b2⟩:=WG h.2 w.2
  exact ⟨⟨a1,b1⟩,by rw [zq,zq,a2,b2]⟩
theorem Qn {β β':Inj}{v:zd} (h:WH v=true) (w:WF β v):WF β' v∧zh β' v=zh β v:=by
 cases v
 case agg l=>
  have h:l.all jE=true:=by have h:ZF jE l=true:=h;rwa [Ze]at h
  obtain ⟨a1,a2⟩:=WG (β':=β') h w
  exact ⟨a1,by rw [zh,zh,a2]⟩
 all_goals exact Kg h w
theorem zZ.mono {P:Program}{β β':Inj}{b:zJ}{x:Nat×Nat×Nat}{w:World} (h:zZ P β b x w) (l:β.le β'):zZ P β' b x w:=by
 cases b with
 | cells t n c=>obtain ⟨arr,fz,h1,h2⟩:=h;exact ⟨arr,fz,h1,h2.mono l⟩
 | map es clock=>
  obtain ⟨arr,h1,h2,h3⟩:=h
  refine ⟨arr,h1,?_,fun e he=>⟨(WF.mono l _ (h3 e he).1).1,(WF.mono l _ (h3 e he).2.1).1,(h3 e he).2.2⟩⟩
  rw [h2]
  exact (List.map_congr_left fun e he=>KA l e (h3 e he).1 (h3 e he).2.1).symm
 | loop st pend fn n T ps assign body=>obtain ⟨tmps,d,h1,h2⟩:=h;exact ⟨tmps,d,h1,h2.mono l⟩
 | siter s p=>exact h
 | text t v=>obtain ⟨arr,fz,h1,h2⟩:=h;exact ⟨arr,fz,h1,h2.mono l⟩
 | pack t n N=>obtain ⟨arr,fz,h1,h2⟩:=h;exact ⟨arr,fz,h1,h2.mono l⟩
 | ints t v=>obtain ⟨arr,fz,h1,h2⟩:=h;exact ⟨arr,fz,h1,h2.mono l⟩
 | view c=>
  obtain ⟨arr,t,fz,h1,h2⟩:=h
  refine ⟨arr,t,fz,h1,fun i v hv=>?_⟩
  obtain ⟨a1,a2⟩:=WF.mono l v (h2 i v hv).1
  exact ⟨a1,by rw [a2];exact (h2 i v hv).2⟩
theorem zZ.heap {P:Program}{β:Inj}{b:zJ}{x:Nat×Nat×Nat}{w w':World} (h:zZ P β b x w) (e:w'.heap[x.1]? = w.heap[x.1]?):zZ P β b x w':=by
 cases b<;>simpa only [zZ,e] using h
theorem zZ.lt {P:Program}{β:Inj}{b:zJ}{x:Nat×Nat×Nat}{w:World} (h:zZ P β b x w):x.1<w.heap.size:=by
 cases b with
 | cells t n c=>obtain ⟨arr,fz,h1,h2⟩:=h;exact (Array.getElem?_eq_some_iff.1 h1).1
 | map es clock=>obtain ⟨arr,h1,h2⟩:=h;exact (Array.getElem?_eq_some_iff.1 h1).1
 | loop st pend fn n T ps assign body=>obtain ⟨tmps,d,h1,h2⟩:=h;exact (Array.getElem?_eq_some_iff.1 h1).1
 | siter s p=>exact (Array.getElem?_eq_some_iff.1 h.1).1
 | text t v=>obtain ⟨arr,fz,h1,h2⟩:=h;exact (Array.getElem?_eq_some_iff.1 h1).1
 | pack t n N=>obtain ⟨arr,fz,h1,h2⟩:=h;exact (Array.getElem?_eq_some_iff.1 h1).1
 | ints t v=>obtain ⟨arr,fz,h1,h2⟩:=h;exact (Array.getElem?_eq_some_iff.1 h1).1
 | view c=>obtain ⟨arr,t,fz,h1,h2⟩:=h;exact (Array.getElem?_eq_some_iff.1 h1).1
structure Alike (w w':World):Prop where
 heap:w'.heap=w.heap
 tape:w'.tape=w.tape
 os:w'.os=w.os
 output:w'.output=w.output
theorem Rel.alike {P:Program}{β:Inj}{H:Heap}{w w':World} (h:Rel P β H w) (e:Alike w w'):Rel P β H w' where
 blk:=fun id b x h1 h2=>(h.blk id b x h1 h2).heap (by rw [e.heap])
 base:=h.base
 inj:=h.inj
 bnd:=h.bnd
 live:=h.live
theorem Ext.alike {β:Inj}{H:Heap}{w w':World} (hb:∀ id x,β id=some x→id<H.next) (e:Alike w w'):Ext β H w β H w' where
 old:=fun _ _=>rfl
 next:=Nat.le_refl _
 apart:=fun _ _ _=>rfl
 gone:=fun _ b _ h=>⟨b,h⟩
 ro:=fun _ _=>rfl
 new:=fun id x h e=>absurd (hb _ _ e) (by omega)
 frame:=fun _ _ _=>by rw [e.heap]
 size:=by rw [e.heap];exact Nat.le_refl _
 tape:=e.tape
 os:=e.os
 output:=e.output
theorem zZ.qA {P:Program}{β:Inj}{b:zJ}{x:Nat×Nat×Nat}{w w':World} (h:zZ P β b x w) (e:∀ c,c<w.heap.size→w'.heap[c]? = w.heap[c]?):zZ P β b x w':=h.heap (e _ h.lt)
structure ZG (c:Nat) (w w':World):Prop where
 other:∀ k,k≠c→w'.heap[k]? = w.heap[k]?
 size:w'.heap.size=w.heap.size
 tape:w'.tape=w.tape
 os:w'.os=w.os
 output:w'.output=w.output
theorem ZG.refl (c:Nat) (w:World):ZG c w w:=⟨fun _ _=>rfl,rfl,rfl,rfl,rfl⟩
theorem ZG.trans {c:Nat}{a b d:World} (h:ZG c a b) (k:ZG c b d):ZG c a d:=
 ⟨fun i hi=>(k.other i hi).trans (h.other i hi),k.size.trans h.size,k.tape.trans h.tape,k.os.trans h.os,k.output.trans h.output⟩
theorem Rel.oG {P:Program}{β:Inj}{H:Heap}{w w':World} (hR:Rel P β H w) {id:Nat}{b b':zJ}{x:Nat×Nat×Nat}
  (h60:100≤id) (hb:H.blk.get id=some b) (hx:β id=some x) (ht:ZG x.1 w w') (hr:zZ P β b' x w') :
  Rel P β ⟨H.blk.set id b',H.next⟩ w'∧Ext β H w β ⟨H.blk.set id b',H.next⟩ w':=by
 refine ⟨⟨hR.base,?_,?_,hR.bnd,?_⟩,⟨fun _ _=>rfl,Nat.le_refl _,?_,?_,?_,fun i y hi e=>absurd (hR.bnd _ _ e) (by omega),?_,by rw [ht.size];exact Nat.le_refl _,ht.tape,ht.os,ht.output⟩⟩
 ·intro i c y h1 h2
  rw [Tr.zR]at h1
  by_cases hi:id=i
  ·subst hi
   rw [if_pos rfl]at h1
   cases h1
   rw [hx]at h2;cases h2
   exact hr
  ·rw [if_neg hi]at h1
   refine (hR.blk i c y h1 h2).heap (ht.other _ fun e=>hi ?_)
   exact hR.Ja (.inl h60) hb hx h1 h2 e.symm
 ·intro i j c d y z h1 h2 h3 h4 e
  have aux:∀ i c,(H.blk.set id b').get i=some c→∃ c',H.blk.get i=some c':=by
   intro i c h
   rw [Tr.zR]at h
   by_cases hi:id=i
   ·exact ⟨b,by rw [← hi];exact hb⟩
   ·rw [if_neg hi]at h;exact ⟨c,h⟩
  obtain ⟨c',h1'⟩:=aux _ _ h1
  obtain ⟨d',h3'⟩:=aux _ _ h3
  exact hR.inj _ _ _ _ _ _ h1' h2 h3' h4 e
 ·intro i c h
  show i<H.next
  have h:(H.blk.set id b').get i=some c:=h
  rw [Tr.zR]at h
  by_cases hi:id=i
  ·subst hi;exact hR.live _ _ hb
  ·rw [if_neg hi]at h;exact hR.live _ _ h
 ·intro i _ e
  show (H.blk.set id b').get i=_
  rw [Tr.zR,if_neg]
  intro hi;subst hi;rw [hx]at e;cases e
 ·intro i c _ h
  have h:(H.blk.set id b').get i=some c:=h
  rw [Tr.zR]at h
  by_cases hi:id=i
  ·exact ⟨b,by rw [← hi];exact hb⟩
  ·rw [if_neg hi]at h;exact ⟨c,h⟩
 ·intro i hi
  show (H.blk.set id b').get i=_
  rw [Tr.zR,if_neg (by omega)]
 ·intro c _ hc
  exact ht.other c fun e=>hc ⟨id,b,x,h60,hb,hx,e.symm⟩
def Inj.put (β:Inj) (id:Nat) (x:Nat×Nat×Nat):Inj:=fun i=>if i=id then some x else β i
theorem Inj.j4 {β:Inj}{id:Nat}{x:Nat×Nat×Nat} (h:β id=none):β.le (β.put id x):=by
 intro i y e
 unfold Inj.put
 by_cases hi:i=id
 ·subst hi;rw [h]at e;cases e
 ·rw [if_neg hi];exact e
theorem Inj.zM (β:Inj) (id:Nat) (x:Nat×Nat×Nat):β.put id x id=some x:=by simp [Inj.put]
theorem Inj.z8 (β:Inj) {id i:Nat} (x:Nat×Nat×Nat) (h:i≠id):β.put id x i=β i:=by simp [Inj.put,h]
theorem Rel.fresh {P:Program}{β:Inj}{H:Heap}{w:World} (hR:Rel P β H w) {m:Nat} (h:H.next≤m):β m=none:=by
 cases e:β m with
 | none=>rfl
 | some x=>exact absurd (hR.bnd _ _ e) (by omega)
def push (w:World) (o:Obj):World:={ w with heap:=w.heap.push o }
theorem Jm (w:World) (o:Obj) {k:Nat} (h:k<w.heap.size):(push w o).heap[k]? = w.heap[k]?:=by
 show (w.heap.push o)[k]? = _
 rw [Array.getElem?_push,if_neg (by omega)]
theorem j6 (w:World) (o:Obj):(push w o).heap[w.heap.size]? = some o:=by
 show (w.heap.push o)[w.heap.size]? = _
 rw [Array.getElem?_push,if_pos rfl]
theorem Rel.add {P:Program}{β:Inj}{H:Heap}{w:World} (hR:Rel P β H w) (b':zJ) (o:Obj) (e:Nat)
  (hr:zZ P (β.put H.next (w.heap.size,0,e)) b' (w.heap.size,0,e) (push w o)) :
  Rel P (β.put H.next (w.heap.size,0,e)) ⟨H.blk.set H.next b',H.next+1⟩ (push w o) ∧
  Ext β H w (β.put H.next (w.heap.size,0,e)) ⟨H.blk.set H.next b',H.next+1⟩ (push w o):=by
 have hf:=hR.fresh (Nat.le_refl H.next)
 have hle:=Inj.j4 (x:=(w.heap.size,0,e)) hf
 have old:∀ i y,i≠H.next→β.put H.next (w.heap.size,0,e) i=some y→β i=some y:=fun i y hi h=>by
  rw [Inj.z8 _ _ hi]at h;exact h
 refine ⟨⟨Nat.le_succ_of_le hR.base,?_,?_,?_,?_⟩,⟨?_,Nat.le_succ _,?_,?_,?_,?_,?_,by simp [push],rfl,rfl,rfl⟩⟩
 ·intro i c y h1 h2
  have h1:(H.blk.set H.next b').get i=some c:=h1
  rw [Tr.zR]at h1
  by_cases hi:H.next=i
  ·subst hi
   rw [if_pos rfl]at h1;cases h1
   rw [Inj.zM]at h2;cases h2
   exact hr
  ·rw [if_neg hi]at h1
   have h2':=old i y (fun e=>hi e.symm) h2
   have:=hR.blk i c y h1 h2'
   exact (this.mono hle).heap (Jm w o this.lt)
 ·intro i j c d y z h1 h2 h3 h4 e'
  have h1:(H.blk.set H.next b').get i=some c:=h1
  have h3:(H.blk.set H.next b').get j=some d:=h3
  rw [Tr.zR]at h1 h3
  by_cases hi:H.next=i
  ·by_cases hj:H.next=j
   ·omega
   ·rw [if_neg hj]at h3
    have:=(hR.blk j d z h3 (old j z (fun e=>hj e.symm) h4)).lt
    subst hi;rw [Inj.zM]at h2;cases h2
    simp at e';omega
  ·rw [if_neg hi]at h1
   by_cases hj:H.next=j
   ·have:=(hR.blk i c y h1 (old i y (fun e=>hi e.symm) h2)).lt
    subst hj;rw [Inj.zM]at h4;cases h4
    simp at e';omega
   ·rw [if_neg hj]at h3
    exact hR.inj _ _ _ _ _ _ h1 (old i y (fun e=>hi e.symm) h2) h3 (old j z (fun e=>hj e.symm) h4) e'
 ·intro i y h
  show i<H.next+1
  by_cases hi:i=H.next
  ·omega
  ·have:=hR.bnd _ _ (old i y hi h);omega
 ·intro i c h
  show i<H.next+1
  have h:(H.blk.set H.next b').get i=some c:=h
  rw [Tr.zR]at h
  by_cases hi:H.next=i
  ·omega
  ·rw [if_neg hi]at h;have:=hR.live _ _ h;omega
 ·intro i hi;exact Inj.z8 _ _ (by omega)
 ·intro i hi _
  show (H.blk.set H.next b').get i=_
  rw [Tr.zR,if_neg (by omega)]
 ·intro i c hi h
  have h:(H.blk.set H.next b').get i=some c:=h
  rw [Tr.zR,if_neg (by omega)]at h
  exact ⟨c,h⟩
 ·intro i hi
  have:=hR.base
  show (H.blk.set H.next b').get i=_
  rw [Tr.zR,if_neg (by omega)]
 ·intro i y hi h
  by_cases hi':i=H.next
  ·subst hi';rw [Inj.zM]at h;cases h;exact .inl (Nat.le_refl _)
  ·exact absurd (hR.bnd _ _ (old i y hi' h)) (by omega)
 ·intro c hc _;exact Jm w o hc
theorem Rel.del {P:Program}{β:Inj}{H:Heap}{w:World} (hR:Rel P β H w) {id:Nat} (h60:100≤id) {x:Nat×Nat×Nat} (hx:β id=some x) :
  Rel P β ⟨H.blk.del id,H.next⟩ w∧Ext β H w β ⟨H.blk.del id,H.next⟩ w:=by
 have aux:∀ i c,(H.blk.del id).get i=some c→H.blk.get i=some c:=by
  intro i c h
  rw [Tr.jn]at h
  by_cases hi:id=i
  ·rw [if_pos hi]at h;cases h
  ·rw [if_neg hi]at h;exact h
 refine ⟨⟨hR.base,fun i c y h1 h2=>hR.blk i c y (aux _ _ h1) h2,fun i j c d y z h1 h2 h3 h4 e=>hR.inj _ _ _ _ _ _ (aux _ _ h1) h2 (aux _ _ h3) h4 e,hR.bnd,fun i c h=>hR.live _ _ (aux _ _ h)⟩,
  ⟨fun _ _=>rfl,Nat.le_refl _,?_,fun i c _ h=>⟨c,aux _ _ h⟩,fun i hi=>(by show (H.blk.del id).get i=_;rw [Tr.jn,if_neg (by omega)]),fun i y hi e=>absurd (hR.bnd _ _ e) (by omega),fun _ _ _=>rfl,Nat.le_refl _,rfl,rfl,rfl⟩⟩
 intro i _ e
 show (H.blk.del id).get i=_
 rw [Tr.jn,if_neg]
 intro hi;subst hi;rw [hx]at e;cases e
theorem Rel.rename {P:Program}{β:Inj}{H:Heap}{w w':World} (hR:Rel P β H w) {id:Nat}{b b':zJ}{x y:Nat×Nat×Nat}
  (h60:100≤id) (hb:H.blk.get id=some b) (hx:β id=some x) (hy:y.1=x.1) (ht:ZG x.1 w w') (hr:zZ P (β.put H.next y) b' y w') :
  Rel P (β.put H.next y) ⟨(H.blk.del id).set H.next b',H.next+1⟩ w'∧Ext β H w (β.put H.next y) ⟨(H.blk.del id).set H.next b',H.next+1⟩ w':=by
 have hf:=hR.fresh (Nat.le_refl H.next)
 have hid:=hR.live _ _ hb
 have hle:=Inj.j4 (x:=y) hf
 have old:∀ i z,i≠H.next→β.put H.next y i=some z→β i=some z:=fun i z hi h=>by
  rw [Inj.z8 _ _ hi]at h;exact h
 have aux:∀ i c,((H.blk.del id).set H.next b').get i=some c→i≠H.next→i≠id∧H.blk.get i=some c:=by
  intro i c h hi
  rw [Tr.zR,if_neg (fun e=>hi e.symm),Tr.jn]at h
  by_cases hi':id=i
  ·rw [if_pos hi']at h;cases h
  ·rw [if_neg hi']at h;exact ⟨fun e=>hi' e.symm,h⟩
 have self:∀ c,((H.blk.del id).set H.next b').get H.next=some c→c=b':=by
  intro c h;rw [Tr.zR,if_pos rfl]at h;cases h;rfl
 refine ⟨⟨Nat.le_succ_of_le hR.base,?_,?_,?_,?_⟩,⟨?_,Nat.le_succ _,?_,?_,?_,?_,?_,by rw [ht.size];exact Nat.le_refl _,ht.tape,ht.os,ht.output⟩⟩
 ·intro i c z h1 h2
  by_cases hi:i=H.next
  ·subst hi
   cases self _ h1
   rw [Inj.zM]at h2;cases h2
   exact hr
  ·obtain ⟨h3,h4⟩:=aux i c h1 hi
   have h5:=old i z hi h2
   have:=hR.blk i c z h4 h5
   refine (this.mono hle).heap (ht.other _ fun e=>h3 ?_)
   exact hR.Ja (.inr h60) h4 h5 hb hx e
 ·intro i j c d z u h1 h2 h3 h4 e
  by_cases hi:i=H.next
  ·by_cases hj:j=H.next
   ·omega
   ·obtain ⟨h5,h6⟩:=aux j d h3 hj
    subst hi;rw [Inj.zM]at h2;cases h2
    exact absurd (hR.Ja (.inr h60) h6 (old j u hj h4) hb hx (by rw [← e,hy])) h5
  ·obtain ⟨h5,h6⟩:=aux i c h1 hi
   by_cases hj:j=H.next
   ·subst hj;rw [Inj.zM]at h4;cases h4
    exact absurd (hR.Ja (.inr h60) h6 (old i z hi h2) hb hx (by rw [e,hy])) h5
   ·obtain ⟨h7,h8⟩:=aux j d h3 hj
    exact hR.inj _ _ _ _ _ _ h6 (old i z hi h2) h8 (old j u hj h4) e
 ·intro i z h
  show i<H.next+1
  by_cases hi:i=H.next
  ·omega
  ·have:=hR.bnd _ _ (old i z hi h);omega
 ·intro i c h
  show i<H.next+1
  by_cases hi:i=H.next
  ·omega
  ·have:=hR.live _ _ (aux i c h hi).2;omega
 ·intro i hi;exact Inj.z8 _ _ (by omega)
 ·intro i hi e
  show ((H.blk.del id).set H.next b').get i=_
  rw [Tr.zR,if_neg (by omega),Tr.jn,if_neg]
  intro hi';subst hi';rw [hx]at e;cases e
 ·intro i c hi h
  exact ⟨c,(aux i c h (by omega)).2⟩
 ·intro i hi
  have:=hR.base
  show ((H.blk.del id).set H.next b').get i=_
  rw [Tr.zR,if_neg (by omega),Tr.jn,if_neg (by omega)]
 ·intro i z hi h
  by_cases hi':i=H.next
  ·subst hi';rw [Inj.zM]at h;cases h
   exact .inr ⟨id,b,x,h60,hb,hx,hy.symm⟩
  ·exact absurd (hR.bnd _ _ (old i z hi' h)) (by omega)
 ·intro c _ hc
  exact ht.other c fun e=>hc ⟨id,b,x,h60,hb,hx,e.symm⟩
end
section
variable [Unk]
structure jU (E:Env):Prop where
 types:∀ t,E.types.get t=E.P.types[t]?
 funcs:∀ f,E.funcs.get f=E.P.funcs[f]?
theorem rB (P:Program) (s:List (FuncId×Spec)) (fs:List Fact) (ts:List (Nat×zJ)):jU (Kd P s fs ts) where
 types:=fun t=>by show (Tr.ofList P.types.toList).get t=_;rw [Tr.qV];simp [Kd]
 funcs:=fun t=>by show (Tr.ofList P.funcs.toList).get t=_;rw [Tr.qV];simp [Kd]
theorem JE:∀ (l:List (Nat×zJ)) (id:Nat) (b:zJ),(js l).get id=some b→(id,b)∈l:=by
 intro l
 induction l with
 | nil=>intro id b h;rw [show js [] = .nil from rfl,Tr.get_nil]at h;cases h
 | cons p l ih=>
  intro id b h
  rw [show js (p::l)=(js l).set p.1 p.2 from rfl,Tr.zR]at h
  by_cases hi:p.1=id
  ·rw [if_pos hi]at h
   cases h
   subst hi
   exact List.mem_cons_self
  ·rw [if_neg hi]at h
   exact List.mem_cons_of_mem _ (ih id b h)
theorem fg:∀ (l:List (Nat×zJ)) (p:Nat×zJ),p∈l→∃ b,(js l).get p.1=some b:=by
 intro l
 induction l with
 | nil=>intro p h;cases h
 | cons q l ih=>
  intro p h
  rw [show js (q::l)=(js l).set q.1 q.2 from rfl,Tr.zR]
  by_cases hi:q.1=p.1
  ·exact ⟨_,by rw [if_pos hi]⟩
  ·rw [if_neg hi]
   rcases List.mem_cons.1 h with rfl | h
   ·exact absurd rfl hi
   ·exact ih p h
structure Grown (w w':World):Prop where
 old:∀ c,c<w.heap.size→w'.heap[c]? = w.heap[c]?
 size:w.heap.size≤w'.heap.size
 tape:w'.tape=w.tape
 os:w'.os=w.os
 output:w'.output=w.output
theorem Rel.YP {P:Program}{β:Inj}{H:Heap}{w w':World} (h:Rel P β H w) (e:Grown w w'):Rel P β H w' where
 blk:=fun id b x h1 h2=>(h.blk id b x h1 h2).qA e.old
 base:=h.base
 inj:=h.inj
 bnd:=h.bnd
 live:=h.live
theorem Ext.YP {β:Inj}{H:Heap}{w w':World} (hb:∀ id x,β id=some x→id<H.next) (e:Grown w w'):Ext β H w β H w' where
 old:=fun _ _=>rfl
 next:=Nat.le_refl _
 apart:=fun _ _ _=>rfl
 gone:=fun _ b _ h=>⟨b,h⟩
 ro:=fun _ _=>rfl
 new:=fun id x h e=>absurd (hb _ _ e) (by omega)
 frame:=fun c hc _=>e.old c hc
 size:=e.size
 tape:=e.tape
 os:=e.os
 output:=e.output
def xy (x:Value):Bool:=match x with | .nilIface=>false | .agg _=>false | _=>true
def yR (P:Program) (zW:List (Nat×zJ)) (w:World):Prop:=∃ β:Inj,(∀ g,g<100→β g=some (Unk.place g))∧∀ p∈zW,zZ P β p.2 (Unk.place p.1) w
structure Made (P:Program) (β:Inj) (N n:Nat) (rows:List (Nat×zJ)) (γ:Inj) (w w2:World):Prop where
 low:∀ id,id<N→∀ x,γ id=some x→β id=some x
 high:∀ id,N+n≤id→γ id=none
 new:∀ id x,N≤id→γ id=some x→w.heap.size≤x.1
 blk:∀ p∈rows,∀ x,γ p.1=some x→zZ P γ p.2 x w2
 inj:∀ p∈rows,∀ q∈rows,∀ x y,γ p.1=some x→γ q.1=some y→x.1=y.1→p.1=q.1
def tF (β:Inj) (w:World) (p:zd) (x:Value):Prop:=
 match yL p with
 | none=>WF β p∧x=zh β p
 | some q=>WF β q.2∧∃ s b o cap,zh β q.2 = .string s∧x = .slice (some ⟨b,o,none⟩) s.size cap∧s.size≤cap∧∀ i (c:UInt8),s.data[i]? = some c→w.cell? ⟨b,o+i,none⟩=some (.int .u8 c.toNat)
def iL (β:Inj) (w:World):List zd→List Value→Prop
 | [],[]=>True
 | p::l,x::m=>tF β w p x∧iL β w l m
 | _,_=>False
def tB (P:Program) (b:zJ):Prop:=∀ (β β':Inj) (x:Nat×Nat×Nat) (w:World),(∀ g,g<100→β g=some (Unk.place g))→(∀ g,g<100→β' g=some (Unk.place g))→zZ P β b x w→zZ P β' b x w
def Ua (P:Program) (zW:List (Nat×zJ)) (β:Inj) (f:FuncId) (args:List zd) (nx:Nat) (rin rout:List (Nat×zJ)) (r:zd) (n:Nat):Prop:=
 ∀ β' H w,β.le β'→Rel P β' H w→(∀ g,g<100→β' g=some (Unk.place g))→(∀ p∈zW,p.1<100∧H.blk.get p.1=some p.2)→H.next=nx→(∀ p∈rin,H.blk.get p.1=some p.2)→WFs β' args →
  Calls P f (zq β' args).toArray w fun e w2=>∃ γ,e = .returned (zh γ r)∧WF γ r∧Rel P γ (WE H rin rout n) w2∧Ext β' H w γ (WE H rin rout n) w2
def kD (P:Program) (zW:List (Nat×zJ)) (β:Inj) (f:FuncId) (args:List zd) (r:zd):Prop:=
 WFs β args∧WF β r∧∀ w,yR P zW w→Calls P f (zq β args).toArray w fun e w2=>e = .returned (zh β r)∧Grown w w2
def kC (P:Program) (zW:List (Nat×zJ)) (β:Inj) (f:FuncId) (args:List zd) (N n:Nat) (rows:List (Nat×zJ)) (r:zd):Prop:=
 WFs β args∧(∀ p∈rows,N≤p.1∧p.1<N+n∧(yc p.2).isNone=true)∧∀ w,yR P zW w→Calls P f (zq β args).toArray w fun e w2=>Grown w w2∧∃ γ,e = .returned (zh γ r)∧WF γ r∧Made P β N n rows γ w w2
theorem kD.mono {P:Program}{zW:List (Nat×zJ)}{β β':Inj} (l:β.le β') {f:FuncId}{as:List zd}{r:zd} (h:kD P zW β f as r):kD P zW β' f as r:=by
 obtain ⟨h1,h2,h3⟩:=h
 obtain ⟨a1,a2⟩:=WFs.mono l _ h1
 obtain ⟨b1,b2⟩:=WF.mono l _ h2
 exact ⟨a1,b1,by rw [a2,b2];exact h3⟩
theorem kC.mono {P:Program}{zW:List (Nat×zJ)}{β β':Inj} (l:β.le β') {f:FuncId}{as:List zd}{N n:Nat}{rows:List (Nat×zJ)}{r:zd} (h:kC P zW β f as N n rows r):kC P zW β' f as N n rows r:=by
 obtain ⟨h1,h2,h3⟩:=h
 obtain ⟨a1,a2⟩:=WFs.mono l _ h1
 refine ⟨a1,h2,fun w hw=>?_⟩
 rw [a2]
 exact (h3 w hw).mono fun e w2 hx=>by
  obtain ⟨g,γ,e1,e2,m⟩:=hx
  exact ⟨g,γ,e1,e2,⟨fun id hid x hx=>l _ _ (m.low id hid x hx),m.high,m.new,m.blk,m.inj⟩⟩
def Q2 (P:Program) (β:Inj) (op:BinOp) (a b r:zd):Prop:=WF β a∧WF β b∧WF β r∧xy (zh β a)=true∧∀ t w,(Go.binOp op t (zh β a) (zh β b)).run P w = .ok (zh β r) w
def K9 (P:Program) (β:Inj) (op:UnOp) (a r:zd):Prop:=WF β a∧WF β r∧∀ w,(Op.unary op (zh β a)).run P w = .ok (zh β r) w
theorem Q2.mono {P:Program}{β β':Inj} (l:β.le β') {op:BinOp}{a b r:zd} (h:Q2 P β op a b r):Q2 P β' op a b r:=by
 obtain ⟨h1,h2,h3,h4,h5⟩:=h
 obtain ⟨a1,a2⟩:=WF.mono l _ h1
 obtain ⟨b1,b2⟩:=WF.mono l _ h2
 obtain ⟨r1,r2⟩:=WF.mono l _ h3
 exact ⟨a1,b1,r1,by rw [a2];exact h4,by rw [a2,b2,r2];exact h5⟩
theorem K9.mono {P:Program}{β β':Inj} (l:β.le β') {op:UnOp}{a r:zd} (h:K9 P β op a r):K9 P β' op a r:=by
 obtain ⟨h1,h2,h3⟩:=h
 obtain ⟨a1,a2⟩:=WF.mono l _ h1
 obtain ⟨r1,r2⟩:=WF.mono l _ h2
 exact ⟨a1,r1,by rw [a2,r2];exact h3⟩
def jw (P:Program) (zW:List (Nat×zJ)) (β:Inj):Fact→Prop
 | .bin op a b r=>Q2 P β op a b r
 | .eq sh a b r=>WF β a∧WF β b∧((sh=1∧∃ k m n,zh β a = .int k m∧zh β b = .int k n∧r=(m==n))∨(sh=2∧∃ s t,zh β a = .string s∧zh β b = .string t∧r=decide (s=t))∨(sh=3∧∃ s t:Bool,zh β a = .bool s∧zh β b = .bool t∧r=(s==t)))
 | .conv k a r=>WF β a∧WF β r∧∃ j n,zh β a = .int j n∧zh β r = .int k (k.wrap n)
 | .len a r=>WF β a∧WF β r∧∃ s,zh β a = .string s∧zh β r = .int .i64 (s.size:Nat)
 | .min a b r=>WF β a∧WF β b∧WF β r∧∃ k m n,zh β a = .int k m∧zh β b = .int k n∧zh β r = .int k (if n<m then n else m)
 | .max a b r=>WF β a∧WF β b∧WF β r∧∃ k m n,zh β a = .int k m∧zh β b = .int k n∧zh β r = .int k (if m<n then n else m)
 | .sub a lo hi r=>WF β a∧WF β lo∧WF β hi∧WF β r∧∃ s j l k h,zh β a = .string s∧zh β lo = .int j (Int.ofNat l)∧zh β hi = .int k (Int.ofNat h)∧l≤h∧h≤s.size∧zh β r = .string (s.extract l h)
 | .call f args r=>kD P zW β f args r
 | .make f args N n rows r=>kC P zW β f args N n rows r
 | .callF g=>∀ f args r,g f args=some r→kD P zW β f args r
 | .makeF g=>∀ f args x,g f args=some x→kC P zW β f args x.1 x.2.1 x.2.2.1 x.2.2.2
 | .binF g=>∀ op a b r,g op a b=some r→Q2 P β op a b r
 | .unF g=>∀ op a r,g op a=some r→K9 P β op a r
 | .at_ a i r=>WF β a∧WF β r∧∃ s b,zh β a = .string s∧s.data[i]? = some b∧zh β r = .int .u8 b.toNat
 | .pack l r=>WFs β l∧WF β r∧∃ s,zh β r = .string s∧zq β l=s.data.toList.map fun b=>Value.int .u8 b.toNat
 | .read f args r=>WF β r∧∀ w vs β',β.le β'→yR P zW w→iL β' w args vs→Calls P f vs.toArray w fun e w2=>e = .returned (zh β r)∧Grown w w2
 | .memo f args nx rin rout r n=>Ua P zW β f args nx rin rout r n
 | .num q lo hi=>WF β (.sym q)∧∃ n:Nat,zh β (.sym q) = .int .i64 (n:Int)∧lo≤n∧n≤hi
 | .diff q m r=>WF β (.sym q)∧WF β (.sym r)∧∃ n:Nat,zh β (.sym q) = .int .i64 (n:Int)∧m≤n∧zh β (.sym r) = .int .i64 ((n-m:Nat):Int)
 | .slen a r=>WF β a∧WF β r∧∃ p n c,zh β a = .slice p n c∧zh β r = .int .i64 (n:Nat)
 | .ssub a h r=>WF β a∧WF β h∧WF β r∧∃ p n c j k,zh β a = .slice p n c∧zh β h = .int j (Int.ofNat k)∧k≤c∧zh β r = .slice p k c
 | .memoG f N _ args nx rin rout r n=>∃ β0:Inj,β0.le β∧(∀ id,N≤id→β0 id=none)∧Ua P zW β0 f args nx rin rout r n∧(∀ t,∀ p∈rin,(j5 rin t).get p.1=some p.2) ∧
  (∀ p∈rout,N≤p.1∧(yc p.2).isNone=true)∧(∀ t,∀ p∈rout,(j5 rout t).get p.1=some p.2)∧∀ p∈zW,tB P p.2∧(js zW).get p.1=some p.2
theorem jw.mono {P:Program}{zW:List (Nat×zJ)}{β β':Inj} (l:β.le β') {f:Fact} (h:jw P zW β f):jw P zW β' f:=by
 cases f with
 | bin op a b r=>
  obtain ⟨h1,h2,h3,h4,h5⟩:=h
  obtain ⟨a1,a2⟩:=WF.mono l _ h1
  obtain ⟨b1,b2⟩:=WF.mono l _ h2
  obtain ⟨r1,r2⟩:=WF.mono l _ h3
  exact ⟨a1,b1,r1,by rw [a2];exact h4,by rw [a2,b2,r2];exact h5⟩
 | eq sh a b r=>
  obtain ⟨h1,h2,h3⟩:=h
  obtain ⟨a1,a2⟩:=WF.mono l _ h1
  obtain ⟨b1,b2⟩:=WF.mono l _ h2
  exact ⟨a1,b1,by rw [a2,b2];exact h3⟩
 | conv k a r=>
  obtain ⟨h1,h2,h3⟩:=h
  obtain ⟨a1,a2⟩:=WF.mono l _ h1
  obtain ⟨b1,b2⟩:=WF.mono l _ h2
  exact ⟨a1,b1,by rw [a2,b2];exact h3⟩
 | len a r=>
  obtain ⟨h1,h2,h3⟩:=h
  obtain ⟨a1,a2⟩:=WF.mono l _ h1
  obtain ⟨b1,b2⟩:=WF.mono l _ h2
  exact ⟨a1,b1,by rw [a2,b2];exact h3⟩
 | min a b r=>
  obtain ⟨h1,h2,h3,h4⟩:=h
  obtain ⟨a1,a2⟩:=WF.mono l _ h1
  obtain ⟨b1,b2⟩:=WF.mono l _ h2
  obtain ⟨r1,r2⟩:=WF.mono l _ h3
  exact ⟨a1,b1,r1,by rw [a2,b2,r2];exact h4⟩
 | max a b r=>
  obtain ⟨h1,h2,h3,h4⟩:=h
  obtain ⟨a1,a2⟩:=WF.mono l _ h1
  obtain ⟨b1,b2⟩:=WF.mono l _ h2
  obtain ⟨r1,r2⟩:=WF.mono l _ h3
  exact ⟨a1,b1,r1,by rw [a2,b2,r2];exact h4⟩
 | sub a lo hi r=>
  obtain ⟨h1,h2,h3,h4,h5⟩:=h
  obtain ⟨a1,a2⟩:=WF.mono l _ h1
  obtain ⟨b1,b2⟩:=WF.mono l _ h2
  obtain ⟨c1,c2⟩:=WF.mono l _ h3
  obtain ⟨r1,r2⟩:=WF.mono l _ h4
  exact ⟨a1,b1,c1,r1,by rw [a2,b2,c2,r2];exact h5⟩
 | call f as r=>exact kD.mono l h
 | callF g=>exact fun f args r hr=>(h f args r hr).mono l
 | binF g=>exact fun op a b r hr=>(h op a b r hr).mono l
 | unF g=>exact fun op a r hr=>(h op a r hr).mono l
 | makeF g=>exact fun f args x hr=>(h f args x hr).mono l
 | at_ a i r=>
  obtain ⟨h1,h2,h3⟩:=h
  obtain ⟨a1,a2⟩:=WF.mono l _ h1
  obtain ⟨b1,b2⟩:=WF.mono l _ h2
  exact ⟨a1,b1,by rw [a2,b2];exact h3⟩
 | pack as r=>
  obtain ⟨h1,h2,h3⟩:=h
  obtain ⟨a1,a2⟩:=WFs.mono l _ h1
  obtain ⟨b1,b2⟩:=WF.mono l _ h2
  exact ⟨a1,b1,by rw [a2,b2];exact h3⟩
 | read f as r=>
  obtain ⟨h1,h2⟩:=h
  obtain ⟨a1,a2⟩:=WF.mono l _ h1
  refine ⟨a1,fun w vs β2 l2=>?_⟩
  rw [a2]
  exact h2 w vs β2 (fun id x hx=>l2 id x (l id x hx))
 | num q lo hi=>
  obtain ⟨h1,n,h2,h3⟩:=h
  obtain ⟨a1,a2⟩:=WF.mono l _ h1
  exact ⟨a1,n,by rw [a2];exact h2,h3⟩
 | diff q m r=>
  obtain ⟨h1,h2,n,h3,h4,h5⟩:=h
  obtain ⟨a1,a2⟩:=WF.mono l _ h1
  obtain ⟨b1,b2⟩:=WF.mono l _ h2
  exact ⟨a1,b1,n,by rw [a2];exact h3,h4,by rw [b2];exact h5⟩
 | slen a r=>
  obtain ⟨h1,h2,h3⟩:=h
  obtain ⟨a1,a2⟩:=WF.mono l _ h1
  obtain ⟨b1,b2⟩:=WF.mono l _ h2
  exact ⟨a1,b1,by rw [a2,b2];exact h3⟩
 | ssub a h' r=>
  obtain ⟨h1,h2,h3,h4⟩:=h
  obtain ⟨a1,a2⟩:=WF.mono l _ h1
  obtain ⟨b1,b2⟩:=WF.mono l _ h2
  obtain ⟨r1,r2⟩:=WF.mono l _ h3
  exact ⟨a1,b1,r1,by rw [a2,b2,r2];exact h4⟩
 | memoG f N segs args nx rin rout r n=>
  obtain ⟨β0,h1,h2⟩:=h
  exact ⟨β0,fun id x hx=>l id x (h1 id x hx),h2⟩
 | memo f as nx rin rout r n=>exact fun β2 H w h2=>h β2 H w (fun id x hx=>h2 id x (l id x hx))
 | make f as N n rows r=>exact kC.mono l h
def qd (E:Env) (β:Inj):Prop:=∀ f∈E.facts,jw E.P E.zW β f
theorem qd.mono {E:Env}{β β':Inj} (l:β.le β') (h:qd E β):qd E β':=fun f hf=>(h f hf).mono l
theorem qh {α:Type}{p:Fact→Option α}:∀ {l:List Fact}{r:α},findF p l=some r→∃ f∈l,p f=some r:=by
 intro l
 induction l with
 | nil=>intro r h;cases h
 | cons f l ih=>
  intro r h
  have h:zt (p f) (findF p l) some=some r:=h
  cases hp:p f with
  | none=>
   rw [hp]at h
   obtain ⟨g,hg,e⟩:=ih h
   exact ⟨g,List.mem_cons_of_mem _ hg,e⟩
  | some q=>
   rw [hp]at h
   exact ⟨f,List.mem_cons_self,by rw [hp];exact h⟩
theorem JP {P:Program}{zW:List (Nat×zJ)}{β:Inj}{op:BinOp}{a b r:zd}{f:Fact} (h:Kf op a b f=some r) (hf:jw P zW β f):Q2 P β op a b r:=by
 cases f<;>simp only [Kf]at h<;>first | (cases h;done) | skip
 case bin o x y q=>
  obtain ⟨h1,h⟩:=zl h
  simp only [zB,Bool.and_eq_true,zG,beq_iff_eq]at h1
  obtain ⟨e1,e2,e3⟩:=h1
  cases h
  have hf:Q2 P β o x y r:=hf
  rw [zX _ _ e2,zX _ _ e3]
  have:op=o:=by cases op<;>cases o<;>first | rfl | (cases e1;done)
  rw [this]
  exact hf
 case binF g=>exact hf op a b r h
theorem rF {P:Program}{zW:List (Nat×zJ)}{β:Inj}{op:UnOp}{a r:zd}{f:Fact} (h:mUn op a f=some r) (hf:jw P zW β f):K9 P β op a r:=by
 cases f<;>simp only [mUn]at h<;>first | (cases h;done) | skip
 case unF g=>exact hf op a r h
theorem gg {sh:Nat}{a b:zd}{r:Bool}{f:Fact} (h:mEq sh a b f=some r):f = .eq sh a b r:=by
 cases f<;>simp only [mEq]at h<;>first | (cases h;done) | skip
 obtain ⟨h1,h⟩:=zl h
 simp only [zB,Bool.and_eq_true,zG,beq_iff_eq]at h1
 obtain ⟨e1,e2,e3⟩:=h1
 cases h
 rw [zX _ _ e2,zX _ _ e3,e1]
theorem rR {k:IntKind}{a r:zd}{f:Fact} (h:rS k a f=some r):f = .conv k a r:=by
 cases f<;>simp only [rS]at h<;>first | (cases h;done) | skip
 obtain ⟨h1,h⟩:=zl h
 simp only [zB,Bool.and_eq_true]at h1
 obtain ⟨e1,e2⟩:=h1
 cases h
 rw [zX _ _ e2,(YX _ _).1 e1]
theorem JO {a r:zd}{f:Fact} (h:Uj a f=some r):f = .len a r:=by
 cases f<;>simp only [Uj]at h<;>first | (cases h;done) | skip
 obtain ⟨h1,h⟩:=zl h
 cases h
 rw [zX _ _ h1]
theorem rJ {a r:zd}{f:Fact} (h:rK a f=some r):f = .slen a r:=by
 cases f<;>simp only [rK]at h<;>first | (cases h;done) | skip
 obtain ⟨h1,h⟩:=zl h
 cases h
 rw [zX _ _ h1]
theorem rH {a b r:zd}{f:Fact} (h:rI a b f=some r):f = .ssub a b r:=by
 cases f<;>simp only [rI]at h<;>first | (cases h;done) | skip
 obtain ⟨h1,h⟩:=zl h
 simp only [zB,Bool.and_eq_true]at h1
 obtain ⟨e1,e2⟩:=h1
 cases h
 rw [zX _ _ e1,zX _ _ e2]
theorem uu {a b r:zd}{f:Fact} (h:xQ a b f=some r):f = .min a b r:=by
 cases f<;>simp only [xQ]at h<;>first | (cases h;done) | skip
 obtain ⟨h1,h⟩:=zl h
 simp only [zB,Bool.and_eq_true]at h1
 obtain ⟨e1,e2⟩:=h1
 cases h
 rw [zX _ _ e1,zX _ _ e2]
theorem uv {a b r:zd}{f:Fact} (h:xR a b f=some r):f = .max a b r:=by
 cases f<;>simp only [xR]at h<;>first | (cases h;done) | skip
 obtain ⟨h1,h⟩:=zl h
 simp only [zB,Bool.and_eq_true]at h1
 obtain ⟨e1,e2⟩:=h1
 cases h
 rw [zX _ _ e1,zX _ _ e2]
theorem ur {a l h' r:zd}{f:Fact} (h:rG a l h' f=some r):f = .sub a l h' r:=by
 cases f<;>simp only [rG]at h<;>first | (cases h;done) | skip
 obtain ⟨h1,h⟩:=zl h
 simp only [zB,Bool.and_eq_true]at h1
 obtain ⟨e1,e2,e3⟩:=h1
 cases h
 rw [zX _ _ e1,zX _ _ e2,zX _ _ e3]
theorem xS {a r:zd}{i:Nat}{f:Fact} (h:mAt a i f=some r):f = .at_ a i r:=by
 cases f<;>simp only [mAt]at h<;>first | (cases h;done) | skip
 obtain ⟨h1,h⟩:=zl h
 simp only [zB,Bool.and_eq_true,zG,beq_iff_eq]at h1
 obtain ⟨e1,e2⟩:=h1
 cases h
 rw [zX _ _ e1,e2]
theorem rM {l:List zd}{r:zd}{f:Fact} (h:lA l f=some r):f = .pack l r:=by
 cases f<;>simp only [lA]at h<;>first | (cases h;done) | skip
 obtain ⟨h1,h⟩:=zl h
 cases h
 rw [jZ _ _ h1]
theorem rT {P:Program}{zW:List (Nat×zJ)}{β:Inj}{g:FuncId}{as:List zd}{r:zd}{f:Fact} (h:dH g as f=some r) (hf:jw P zW β f):kD P zW β g as r:=by
 cases f<;>simp only [dH]at h<;>first | (cases h;done) | exact hf _ _ _ h | skip
 obtain ⟨h1,h⟩:=zl h
 simp only [zB,Bool.and_eq_true,zG,beq_iff_eq]at h1
 obtain ⟨e1,e2⟩:=h1
 cases h
 rw [jZ _ _ e2,e1]
 exact hf
theorem rP {P:Program}{zW:List (Nat×zJ)}{β:Inj}{g:FuncId}{as:List zd}{r:Nat×Nat×List (Nat×zJ)×zd}{f:Fact} (h:dF g as f=some r) (hf:jw P zW β f):kC P zW β g as r.1 r.2.1 r.2.2.1 r.2.2.2:=by
 cases f<;>simp only [dF]at h<;>first | (cases h;done) | exact hf _ _ _ h | skip
 obtain ⟨h1,h⟩:=zl h
 simp only [zB,Bool.and_eq_true,zG,beq_iff_eq]at h1
 obtain ⟨e1,e2⟩:=h1
 cases h
 rw [jZ _ _ e2,e1]
 exact hf
section
variable {E:Env} (hE:jU E)
include hE
theorem Vp {t:TypeId}{i:TypeInfo} (h:E.types.get t=some i):E.P.info? t=some i:=by
 rw [hE.types]at h
 have:t<E.P.types.size:=by
  rcases Nat.lt_or_ge t E.P.types.size with h' | h'
  ·exact h'
  ·rw [Array.getElem?_eq_none h']at h;cases h
 unfold Tables.info?
 rw [if_pos this];exact h
theorem jT {t:TypeId}{d:TypeDesc} (h:E.desc t=some d):E.P.underlying t=some d:=by
 unfold Env.desc at h
 obtain ⟨i,hi,h⟩:=zf h
 have h1:=Vp hE hi
 unfold Program.underlying
 rw [h1]
 unfold descOf at h
 obtain ⟨desc,a1,a2,a3,a4,a5,a6,a7,a8,a9⟩:=i
 cases desc with
 | named n u=>
  obtain ⟨j,hj,h⟩:=zf h
  cases h
  simp [Vp hE hj]
 | _=>simpa using h
theorem zr {t:TypeId}{d:TypeDesc} (h:E.desc t=some d) (w:World):(underlying t).run E.P w = .ok d w:=by
 simp [underlying,jT hE h]
theorem yz {t:TypeId}{n:Nat} (h:E.size t=some n):∃ i,E.P.info? t=some i∧E.types.get t=some i∧i.size=n∧jC E.P t=n:=by
 unfold Env.size at h
 obtain ⟨i,hi,h⟩:=zf h
 cases h
 refine ⟨i,Vp hE hi,hi,rfl,?_⟩
 unfold jC
 rw [← hE.types,hi];rfl
theorem j3 {t:TypeId}{i:TypeInfo} (h:E.types.get t=some i) (w:World):(typeInfo t).run E.P w = .ok i w:=by
 simp [typeInfo,Vp hE h]
theorem qk {t:TypeId}{n:Nat} (h:E.size t=some n) (w:World):(sizeOf t).run E.P w = .ok n w:=by
 obtain ⟨i,h1,h2,h3,_⟩:=yz hE h
 simp [sizeOf,typeInfo,h1,h3]
theorem UO {t:TypeId}{g:Bool} (h:E.isAgg t=some g) (w:World):(isAgg t).run E.P w = .ok g w:=by
 unfold Env.isAgg at h
 obtain ⟨d,hd,h⟩:=zf h
 cases h
 unfold isAgg
 rw [Sem.run_bind,zr hE hd]
 cases d<;>simp [DM]
end
theorem lX {H:Heap}{b:Nat}{r:Row} (h:H.vd b=some r):H.blk.get b=some (.cells r.t r.n r.c):=by
 unfold Heap.vd at h
 obtain ⟨k,hk,h⟩:=zf h
 cases k<;>cases h
 exact hk
theorem QC {H:Heap}{b:Nat}{r:Row} (h:H.row b=some r):∃ b0,H.blk.get b=some b0∧tf b0=some r:=by
 unfold Heap.row at h
 obtain ⟨k,hk,h⟩:=zf h
 exact ⟨k,hk,h⟩
theorem ax {b0:zJ}{r:Row} (h:tf b0=some r) {P:Program}{β:Inj}{x:Nat×Nat×Nat}{w:World}:zZ P β b0 x w↔zZ P β (.cells r.t r.n r.c) x w:=by
 cases b0<;>cases h<;>exact Iff.rfl
theorem Inj.jf (β:Inj) (b off j:Nat):(β.addr b off).add j=β.addr b (off+j):=by
 unfold Addr.add Inj.addr
 by_cases h:j=0
 ·simp [h]
 ·simp [h,Nat.add_assoc]
theorem Wf {b:zJ}{q:TypeId×zd} (h:bW b=some q):b = .text q.1 q.2:=by cases b<;>cases h;rfl
theorem Rel.ff {P:Program}{β:Inj}{H:Heap}{w:World} (hR:Rel P β H w) {b:Nat}{t:TypeId}{v:zd} (h:H.blk.get b=some (.text t v)) (hb:(β b).isSome) :
  ∃ arr fz,w.heap[β.blk b]? = some (.cells arr t fz)∧Zf P β .u8 t v (β.sh b) (β.ext b) arr fz:=by
 obtain ⟨x,hx⟩:=Option.isSome_iff_exists.1 hb
 obtain ⟨arr,fz,h1,h2⟩:=hR.blk b _ x h hx
 refine ⟨arr,fz,?_,?_⟩
 ·simpa [Inj.blk,hx] using h1
 ·simpa [Inj.sh,Inj.ext,hx] using h2
theorem Rel.rowAt {P:Program}{β:Inj}{H:Heap}{w:World} (hR:Rel P β H w) {b:Nat}{r:Row} (h:H.row b=some r) (hb:(β b).isSome) :
  ∃ arr fz,w.heap[β.blk b]? = some (.cells arr r.t fz)∧kq P β r.t r.n r.c (β.sh b) (β.ext b) arr fz:=by
 obtain ⟨x,hx⟩:=Option.isSome_iff_exists.1 hb
 obtain ⟨b0,hb0,ha0⟩:=QC h
 have:=(ax ha0).1 (hR.blk b _ x hb0 hx)
 obtain ⟨arr,fz,h1,h2⟩:=this
 refine ⟨arr,fz,?_,?_⟩
 ·simpa [Inj.blk,hx] using h1
 ·simpa [Inj.sh,Inj.ext,hx] using h2
theorem cell_of {w:World}{c o:Nat}{arr:Array Value}{t:TypeId}{fz:Nat×Nat} (h:w.heap[c]? = some (.cells arr t fz)):w.cell? ⟨c,o,none⟩=arr[o]?:=by
 simp [World.cell?,h]
theorem nQ {w:World}{c o:Nat}{arr:Array Value}{t:TypeId}{fz:Nat×Nat} (h:w.heap[c]? = some (.cells arr t fz))
  (hf:∀ i,i<arr.size→¬ (fz.1≤i∧i<fz.2)) (ho:o<arr.size):w.frozen? ⟨c,o,none⟩=false:=by
 have:=hf o ho
 simp only [World.frozen?,h]
 simp only [Bool.and_eq_false_iff,decide_eq_false_iff_not]
 omega
theorem fx {w:World}{c o:Nat}{arr:Array Value}{t:TypeId}{fz:Nat×Nat} (h:w.heap[c]? = some (.cells arr t fz)) (v:Value) :
  (w.setCell ⟨c,o,none⟩ v).heap[c]? = some (.cells (arr.setIfInBounds o v) t fz)∧ZG c w (w.setCell ⟨c,o,none⟩ v):=by
 refine ⟨?_,⟨?_,?_,rfl,rfl,rfl⟩⟩
 ·simp only [World.setCell,Array.getElem?_modify,if_true,h]
  simp
 ·intro k hk
  simp only [World.setCell,Array.getElem?_modify]
  rw [if_neg (by simpa using fun e=>hk e.symm)]
 ·simp [World.setCell]
theorem Rel.cell {P:Program}{β:Inj}{H:Heap}{w:World} (hR:Rel P β H w) {b off:Nat}{r:Row}{v:zd} (h:H.row b=some r) (hb:(β b).isSome)
  (hv:r.c.get off=some v):w.cell? (β.addr b off)=some (zh β v)∧WF β v:=by
 obtain ⟨arr,fz,h1,h2⟩:=hR.rowAt h hb
 obtain ⟨a,c⟩:=h2.cell off v hv
 exact ⟨by rw [Inj.addr,cell_of h1];exact c,a⟩
theorem Rel.dJ {P:Program}{β:Inj}{H:Heap}{w:World} (hR:Rel P β H w) {b off:Nat}{v:zd} (h:H.dJ b off=some v) (hb:(β b).isSome) :
  w.cell? (β.addr b off)=some (zh β v)∧WF β v:=by
 unfold Heap.dJ at h
 cases hr:H.row b with
 | some r=>
  rw [hr,zg]at h
  exact hR.cell hr hb h
 | none=>
  rw [hr,zm]at h
  obtain ⟨k,hk,h⟩:=zf h
  obtain ⟨c,hc,h⟩:=zf h
  cases k<;>cases hc
  obtain ⟨x,hx⟩:=Option.isSome_iff_exists.1 hb
  obtain ⟨arr,t,fz,h1,h2⟩:=hR.blk b _ x hk hx
  obtain ⟨h3,h4⟩:=h2 off v h
  refine ⟨?_,h3⟩
  have e1:β.blk b=x.1:=by simp [Inj.blk,hx]
  have e2:β.sh b=x.2.1:=by simp [Inj.sh,hx]
  rw [Inj.addr,e1,e2,cell_of h1]
  exact h4
theorem Rel.jM {P:Program}{β:Inj}{H:Heap}{w:World} (hR:Rel P β H w) {b off n:Nat}{l:List zd} (h:H.jM b off n=some l) (hb:(β b).isSome) :
  l.length=n∧WFs β l∧(loadCells (β.addr b off) n).run P w = .ok (zq β l).toArray w:=by
 obtain ⟨r,hr,h⟩:=zf h
 obtain ⟨h1,h2⟩:=Tr.kh _ _ _ _ h
 have h3:∀ k v,l[k]? = some v→w.cell? ((β.addr b off).add k)=some (zh β v)∧WF β v:=by
  intro k v hk
  have hlt:k<n:=by rw [← h1];exact (List.getElem?_eq_some_iff.1 hk).1
  rw [Inj.jf]
  exact hR.cell hr hb (by rw [h2 k hlt];exact hk)
 refine ⟨h1,(jb _ _).2 fun v hv=>?_,?_⟩
 ·obtain ⟨k,hk⟩:=List.mem_iff_getElem?.1 hv
  exact (h3 k v hk).2
 ·have:=run_loadCells_list (P:=P) (w:=w) (β.addr b off) (zq β l) (by
   intro j v hj
   rw [zK,List.getElem?_map]at hj
   cases hl:l[j]? with
   | none=>rw [hl]at hj;cases hj
   | some u=>rw [hl]at hj;cases hj;exact (h3 j u hl).1)
  rwa [zK,List.length_map,h1,← zK]at this
section
variable {E:Env} (hE:jU E)
include hE
theorem Rel.loadVar {β:Inj}{H:Heap}{w:World} (hR:Rel E.P β H w) {t:TypeId}{b off:Nat}{v:zd} (h:E.loadVar H t b off=some v) (hb:(β b).isSome) :
  WF β v∧(loadVar t (β.addr b off)).run E.P w = .ok (zh β v) w:=by
 obtain ⟨g,hg,h⟩:=zf h
 unfold Go.loadVar
 rw [Sem.run_bind,UO hE hg]
 cases g with
 | true=>
  obtain ⟨n,hn,h⟩:=zf h
  obtain ⟨l,hl,h⟩:=zf h
  cases h
  obtain ⟨h1,h2,h3⟩:=hR.jM hl hb
  refine ⟨h2,?_⟩
  simp [qk hE hn,h3,zh]
 | false=>
  obtain ⟨h1,h2⟩:=hR.dJ h hb
  refine ⟨h2,?_⟩
  simp [h1]
end
theorem bd (β:Inj) (v:zd):(zh β v).oneCell'=kn v:=by
 cases v<;>first | rfl | (rename_i i;rw [zh];have hp:=VO ((β i).getD (0,0,0));revert hp;cases yk ((β i).getD (0,0,0))<;>intro hp<;>first | rfl | cases hp)
theorem XW {β:Inj}{v:zd} (h:kn v=true):(zh β v).oneCell'=true:=by rw [bd];exact h
theorem Yd {P:Program} (c o:Nat) (t:TypeId) (fz:Nat×Nat):∀ (vs:List Value) (i:Nat) (w:World) (arr:Array Value),
  w.heap[c]? = some (.cells arr t fz)→(∀ i,i<arr.size→¬ (fz.1≤i∧i<fz.2))→o+i+vs.length≤arr.size→(∀ v∈vs,v.oneCell'=true) →
  ∃ w' arr',(storeCells ⟨c,o,none⟩ vs i).run P w = .ok () w'∧w'.heap[c]? = some (.cells arr' t fz)∧ZG c w w'∧arr'.size=arr.size ∧
   ∀ k,arr'[k]? = if o+i≤k∧k<o+i+vs.length then vs[k-(o+i)]? else arr[k]?:=by
 intro vs
 induction vs with
 | nil=>
  intro i w arr h _ _ _
  refine ⟨w,arr,by simp [storeCells],h,.refl _ _,rfl,fun k=>?_⟩
  rw [if_neg (by simp)]
 | cons v vs ih=>
  intro i w arr h hf hs hv
  have ha:(⟨c,o,none⟩:Addr).add i=⟨c,o+i,none⟩:=by
   unfold Addr.add;by_cases hi:i=0<;>simp [hi]
  simp only [List.length_cons]at hs
  obtain ⟨s1,s2⟩:=fx (o:=o+i) h v
  obtain ⟨w',arr',r1,r2,r3,r4,r5⟩:=ih (i+1) (w.setCell ⟨c,o+i,none⟩ v) (arr.setIfInBounds (o+i) v) s1 (by simpa using hf) (by simp;omega) (fun u hu=>hv u (by simp [hu]))
  refine ⟨w',arr',?_,r2,s2.trans r3,by simpa using r4,fun k=>?_⟩
  ·rw [storeCells,Sem.run_bind,ha,run_store _ _ _ _ _ (hv v (by simp)),cell_of h,Array.getElem?_eq_getElem (by omega)]
   simp only [nQ h hf (by omega:o+i<arr.size)]
   exact r1
  ·rw [r5 k]
   by_cases h1:o+(i+1)≤k∧k<o+(i+1)+vs.length
   ·rw [if_pos h1,if_pos (by simp;omega)]
    have:k-(o+i)=(k-(o+(i+1)))+1:=by omega
    rw [this,List.getElem?_cons_succ]
   ·rw [if_neg h1,Array.getElem?_setIfInBounds]
    by_cases h2:o+i=k
    ·subst h2
     simp only [if_true]
     rw [if_pos (by omega),if_pos (by simp)]
     simp
    ·rw [if_neg h2,if_neg (by simp;omega)]
theorem Rel.Zq {P:Program}{β:Inj}{H H':Heap}{w:World} (hR:Rel P β H w) {b off:Nat}{l:List zd} (h:H.Zq b off l=some H') (hb:(β b).isSome) (hl:WFs β l) :
  ∃ w',(storeCells (β.addr b off) (zq β l)).run P w = .ok () w'∧Rel P β H' w'∧Ext β H w β H' w':=by
 obtain ⟨r,hr,h⟩:=zf h
 obtain ⟨h1,h⟩:=zl h
 cases h
 rw [zB,zB,Bool.and_eq_true,Bool.and_eq_true,zN,decide_eq_true_eq,zN,decide_eq_true_eq,jz,Ze]at h1
 obtain ⟨h60,hn,hok⟩:=h1
 have hn:off+l.length≤r.n:=hn
 obtain ⟨arr,fz,g1,g2⟩:=hR.rowAt hr hb
 obtain ⟨x,hx⟩:=Option.isSome_iff_exists.1 hb
 have hx1:β.blk b=x.1:=by simp [Inj.blk,hx]
 have hs:=g2.size
 obtain ⟨w',arr',r1,r2,r3,r4,r5⟩:=Yd (P:=P) (β.blk b) (β.sh b+off) r.t fz (zq β l) 0 w arr g1 g2.thaw
  (by rw [zK,List.length_map];omega) (by
   intro v hv
   rw [zK]at hv
   obtain ⟨u,hu,rfl⟩:=List.mem_map.1 hv
   exact XW (List.all_eq_true.1 hok u hu))
 refine ⟨w',r1,?_⟩
 unfold Heap.put
 obtain ⟨b0,hb0,_⟩:=QC hr
 refine hR.oG h60 hb0 hx (by rw [← hx1];exact r3) ⟨arr',fz,by rw [← hx1];exact r2,⟨?_,?_,?_,by rw [show x.2.1=β.sh b by simp [Inj.sh,hx]];exact g2.al⟩⟩
 ·have:x.2.1=β.sh b∧x.2.2=β.ext b:=by simp [Inj.sh,Inj.ext,hx]
  rw [this.1,this.2,r4];exact g2.size
 ·intro i v hv
  have:x.2.1=β.sh b:=by simp [Inj.sh,hx]
  rw [this,r5,zK,List.length_map]
  rw [Tr.Kv]at hv
  by_cases hi:off≤i∧i<off+l.length
  ·rw [if_pos hi]at hv
   rw [if_pos (by omega),List.getElem?_map]
   have:β.sh b+i-(β.sh b+off+0)=i-off:=by omega
   rw [this,hv]
   exact ⟨(jb _ _).1 hl v (List.mem_of_getElem? hv),rfl⟩
  ·rw [if_neg hi]at hv
   rw [if_neg (by omega)]
   exact g2.cell i v hv
 ·rw [r4];exact g2.thaw
theorem qM (β:Inj) (v:zd):(zh β v).cells=(zq β (zP v)).toArray:=by
 cases v
 case sym i=>
  have hc:zq β (zP (.sym i))=[zh β (.sym i)]:=rfl
  have e:zh β (.sym i)=yk ((β i).getD (0,0,0)):=by rw [zh]
  have hp:=VO ((β i).getD (0,0,0))
  rw [hc]
  rw [← e]at hp
  cases h:zh β (.sym i)<;>first | rfl | (rw [h]at hp;cases hp)
 all_goals simp [zh,Value.cells,zP,zq]
section
variable {E:Env} (hE:jU E)
include hE
theorem tA {β:Inj}{v:zd} (h:WF β v):WFs β (zP v):=by
 have _:=hE
 cases v<;>first | exact h | exact ⟨h,trivial⟩
theorem Rel.storeVar {β:Inj}{H H':Heap}{w:World} (hR:Rel E.P β H w) {t:TypeId}{b off:Nat}{v:zd} (h:E.storeVar H t b off v=some H') (hb:(β b).isSome) (hv:WF β v) :
  ∃ w',(storeVar t (β.addr b off) (zh β v)).run E.P w = .ok () w'∧Rel E.P β H' w'∧Ext β H w β H' w':=by
 obtain ⟨n,hn,h⟩:=zf h
 obtain ⟨h1,h⟩:=zl h
 rw [zG,jz,beq_iff_eq]at h1
 obtain ⟨w',r1,r2,r3⟩:=hR.Zq h hb (tA hE hv)
 refine ⟨w',?_,r2,r3⟩
 unfold Go.storeVar
 rw [qM]
 simp [qk hE hn,zK,h1]
 rw [← zK];exact r1
end
end
end Go.AEv
