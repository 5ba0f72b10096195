/- Trails: H0x1. Conditions: each theorem's. -/
import Derived.Test.YtaffhpgaagnjfaaGreatDoorL0a
import Derived.JoinedOf
set_option linter.all false
open Go.Proofs.Tryz
open Go.Proofs
namespace Go.AEv
variable{n:Nat}{v:G}
section
def B0:∀p∈specs,DG prog p.1 p.2:=by
 intro p hp;simp only[specs,Lf,Lq,Lo]at hp;rcases hp with rfl|rfl|rfl|rfl|rfl|rfl|rfl|rfl|rfl|rfl|rfl|rfl|rfl|rfl|rfl|rfl|rfl|rfl|rfl|rfl|rfl|rfl|rfl|rfl|rfl|rfl|rfl|rfl|rfl|rfl|rfl|rfl|rfl|rfl|rfl|rfl|rfl|rfl|rfl|rfl|rfl|rfl|rfl;iterate 37 · trivial
 .exact⟨f392,func392,U,U,U,U⟩
 .exact⟨f469,func469,U,U,U,U⟩
 .exact⟨#[3],51,⟨f530,func530,U,U,U,U⟩,underlying51,U⟩
 .exact⟨f499,func499,U,U,U,U⟩
 .exact⟨f239,func239,U,U,U,U⟩
 .exact⟨f387,func387,U,U,U,U⟩
def Cy:fp prog=true:=U
def mixed:Tryz.prog.follows .mixedOrders=true:=U
def XN:qS prog 3=1:=U
def bV:qS prog 5=1:=U
variable[Unk]
def UK(facts:List Fact)(t:List (Nat×X)):Fit (iA facts t):=QA Cy mixed B0
omit [Unk] in
def jw{p:Nat->Bool}:∀ {l:Eb},J3 p l=true->∀a∈l,p a=true
 | [],_,a,ha=>by cases ha
 | b::l,h,a,ha=>by
  have h:ifB (p b) (J3 p l) false=true:=h;rw[zo]at h;split at h
  .rename_i hb;rcases Lf.1 ha with rfl|ha
   .exact hb
   .exact jw h a ha
  .cases h
omit [Unk] in
def Ue{a i:Nat}(h1:a<=i)(h2:i<a+n):i∈rng a n:=by
 unfold rng;exact Lv.2 ⟨i-a,Lr.2 I,by show a+(i-a)=i;omega⟩
omit [Unk] in
def aF{α:Type}{p:α->Bool}:∀ {l:List α},List.rec (motive:=λ_=>Bool) true (λx _ ih=>ifB (p x) ih false) l=true->∀x∈l,p x=true
 | [],_,x,hx=>by cases hx
 | b::l,h,x,hx=>by
  have h:ifB (p b) (List.rec (motive:=λ_=>Bool) true (λx _ ih=>ifB (p x) ih false) l) false=true:=h;rw[zo]at h;split at h
  .rename_i hb;rcases Lf.1 hx with rfl|hx
   .exact hb
   .exact aF h x hx
  .cases h
def QD{E:Env}{f:Eu}{args:List G}{ok:G->Heap->Bool}(h:Z5 E f args ok=true):∃v H',qL E (kh E F) f args (jt E 300)=some (v,H')/\ok v H'=true:=by
 unfold Z5 at h
 cases hr:qL E (kh E F) f args (jt E 300) with
 | none=>rw[hr]at h;cases h
 | some p=>rw[hr,ze]at h;exact⟨p.1,p.2,rfl,h⟩
@[reducible] def unk0:Unk:={ val:=λ_=>.int .u8 0,plain:=λ_=>rfl,place:=λg=>(g,0,0),glob:=λ_ _=>rfl }
def jM(s:Ee):Prop:=∃l∈words,s=str l
omit [Unk] in
def qV:∀l∈words,l.length<=13/\∀b∈l,b<256:=by
 intro l hl;have h:(words.all λl=>Nat.ble l.length 13&&l.all λb=>Nat.blt b 256)=true:=U;have:=Ad.1 h l hl;rw[Le]at this;exact⟨Nat.ble_eq.mp this.1,λb hb=>Nat.blt_eq.mp (Ad.1 this.2 b hb)⟩
omit [Unk] in
def jM.JB{s:Ee}(h:jM s):s.size<=13:=by
 obtain⟨l,hl,rfl⟩:=h;rw[@qA unk0];exact(qV l hl).1
omit [Unk] in
def jM.Yo{s:Ee}(h:jM s):s.size<=20:=Lj h.JB C
omit [Unk] in
def Kd{l:Eb}:∀ {ws:List (List Nat)},yd l ws=true->l∈ws
 | [],h=>by cases h
 | a::ws,h=>by
  have h:ifB (iP l a) true (yd l ws)=true:=h;rw[zo]at h;split at h
  .rename_i e;rw[Uv,Ll]at e;rw[e];exact LG
  .exact LP _ (Kd h)
section
variable{val:El}
structure LI(val:El)(lo hi:Int)(v:G):Prop where
 wf:WF (B val) v
 low:Yt 300 v=true
 ex:∃n,J (B val) v = .int .i64 n/\lo<=n/\n<=hi
structure LS(val:El)(v:G):Prop where
 wf:WF (B val) v
 low:Yt 300 v=true
 ex:∃s,J (B val) v = .string s/\jM s
structure LB(val:El)(v:G):Prop where
 wf:WF (B val) v
 low:Yt 300 v=true
 ex:∃b,J (B val) v = .bool b
def om{l:Eb}(h:fw n l=true):n∈l:=(dw n l).1 h
def V7{lo hi z g:Int}{ok:Eb}(h:okI lo hi ok v=true)(h1:z<=lo)(h2:hi<=g)(hs:∀i∈ok,100<=i/\i<300/\∃n,val i = .int .i64 n/\z<=n/\n<=g):LI val z g v:=by
 cases v<;>simp only[okI]at h<;>first|(cases h;done)|skip
 .rename_i k n;simp only[zl,Le,qW,Zi,Bool.not_eq_true',LH]at h;obtain⟨h3,Q,P⟩:=h;have h3:=Zp h3;subst h3;exact⟨trivial,rfl,n,rfl,I,I⟩
 .rename_i i;obtain⟨H,j,n,y,r,m⟩:=hs i (om h);exact⟨zE j,by simpa[Yt] using j,n,zF H j y rfl,r,m⟩
def Q7{ok:Eb}(h:okS ok v=true)(hs:∀i∈ok,100<=i/\i<300/\∃s,val i = .string s/\jM s):LS val v:=by
 cases v<;>simp only[okS]at h<;>first|(cases h;done)|skip
 .rename_i l;have hm:=Kd h;exact⟨λb hb=>(qV l hm).2 b hb,rfl,str l,rfl,l,hm,rfl⟩
 .rename_i i;obtain⟨m,g,s,k,j⟩:=hs i (om h);exact⟨zE g,by simpa[Yt] using g,s,zF m g k rfl,j⟩
def oa{ok:Eb}(h:okB ok v=true)(hs:∀i∈ok,100<=i/\i<300/\∃b,val i = .bool b):LB val v:=by
 cases v<;>simp only[okB]at h<;>first|(cases h;done)|skip
 .rename_i b;exact⟨trivial,rfl,b,rfl⟩
 .rename_i i;obtain⟨k,g,b,j⟩:=hs i (om h);exact⟨zE g,by simpa[Yt] using g,b,zF k g j rfl⟩
def eG{E:Env}(hF:Fit E)(hfacts:zJ E (B val))(j:zP E.tabs=true){f:Eu}{args l:List G}{H':Heap}(g:qL E (kh E F) f args (jt E 300)=some (v,H'))
  (hv:v = .agg l\/l=[v]) (hl:∀u∈l,Yt 300 u=true) (hw:WFs (B val) l) (hargs:WFs (B val) args) {w:Ea} (ht:ql E.P E.tabs w) :
  Calls E.P f (K (B val) args).toArray w λe w2=>Grown w w2/\e = .returned (J (B val) v):=by
 refine(jC hF C Zx hfacts j g hargs ht).mono λe w2 hx=>?_;obtain⟨k,r,rfl,H,m,z,y⟩:=hx;refine⟨k,?_⟩;have:=YR m hl hw;rcases hv with rfl|rfl
 .simp only[J,this]
 .simp only[K,List.cons.injEq,and_true]at this;rw[this]
end
omit [Unk] in
def ey{f:Nat}(h:oY f n=true):∃s:ByteArray,jM s/\∀w,Calls prog f #[.int .u8 (n:Nat)] w λe w2=>Grown w w2/\e = .returned (.string s):=by
 letI:=unk0;obtain⟨v,H',hr,hk⟩:=QD h;have hv:LS (λ_=>.int .u8 0) v:=Q7 hk (λi hi=>by cases hi);obtain⟨s,hs,hle⟩:=hv.ex;refine⟨s,hle,λw=>?_⟩;have:=eG (val:=λ_=>.int .u8 0) (UK [] []) (λf hf=>by cases hf) rfl hr (l:=[v]) (.inr rfl) (λu hu=>by rw[Lu]at hu;rw[hu];exact hv.low) ⟨hv.wf,trivial⟩ (by exact⟨trivial,trivial⟩) (w:=w) ko;rw[hs]at this;exact this
omit [Unk] in
def lS(h:zcs n=true):∃(s t:Ee) (b:Bool),jM s/\jM t/\∀w,Calls prog 183 #[.int .u8 (n:Nat)] w λe w2=>Grown w w2/\e = .returned (.agg #[.string s,.string t,.bool b]):=by
 letI:=unk0;obtain⟨v,H',hr,hk⟩:=QD h;unfold Mt at hk;split at hk
 .rename_i a b c;simp only[zl,Le]at hk;obtain⟨k1,k2,k3⟩:=hk;have l1:LS (λ_=>.int .u8 0) a:=Q7 k1 (λi hi=>by cases hi);have l2:LS (λ_=>.int .u8 0) b:=Q7 k2 (λi hi=>by cases hi);have l3:LB (λ_=>.int .u8 0) c:=oa k3 (λi hi=>by cases hi);obtain⟨s,hs,h1⟩:=l1.ex;obtain⟨t,ht,h2⟩:=l2.ex;obtain⟨d,hd⟩:=l3.ex;refine⟨s,t,d,h1,h2,λw=>?_⟩
  have:=eG (val:=λ_=>.int .u8 0) (UK [] []) (λf hf=>by cases hf) rfl hr (l:=[a,b,c]) (.inl rfl) (λu hu=>by
   simp only[Lf,Lq,Lo]at hu;rcases hu with rfl|rfl|rfl
   .exact l1.low
   .exact l2.low
   .exact l3.low) ⟨l1.wf,l2.wf,l3.wf,trivial⟩ (by exact⟨trivial,trivial⟩) (w:=w) ko
  simp only[J,K]at this hs ht hd;rw[hs,ht,hd]at this;exact this
 .cases hk
end
end Go.AEv
namespace Go.Proofs.YtaffhpgaagnjfaaGreatDoor
def zjW:((Rows.auditReadsRow.inPlace==Tryz.prog.inPlace 5))=true:=U
def zjV:((Rows.auditReadsRow.unfollowed==Tryz.prog.unfollowed 5))=true:=U
def zjU:((Rows.auditReadsRow.recurses==Tryz.prog.recurses 5))=true:=U
end Go.Proofs.YtaffhpgaagnjfaaGreatDoor
