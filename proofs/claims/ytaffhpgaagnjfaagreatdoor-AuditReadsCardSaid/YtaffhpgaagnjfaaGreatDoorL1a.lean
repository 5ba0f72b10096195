/- Trails: L1a. Conditions: each theorem's. -/
import Derived.Test.YtaffhpgaagnjfaaGreatDoorH0x1
import Derived.Test.YtaffhpgaagnjfaaGreatDoorH0x3
import Derived.Test.YtaffhpgaagnjfaaGreatDoorH0x5
import Derived.Test.YtaffhpgaagnjfaaGreatDoorH0x7
import Derived.Test.YtaffhpgaagnjfaaGreatDoorH0x15
import Derived.Test.YtaffhpgaagnjfaaGreatDoorH0x12
import Derived.Test.YtaffhpgaagnjfaaGreatDoorH0x10
import Derived.Test.YtaffhpgaagnjfaaGreatDoorH0x6
import Derived.Test.YtaffhpgaagnjfaaGreatDoorH0x8
import Derived.Test.YtaffhpgaagnjfaaGreatDoorH0x9
import Derived.Test.YtaffhpgaagnjfaaGreatDoorH0x18
import Derived.Test.YtaffhpgaagnjfaaGreatDoorH0x4
import Derived.Test.YtaffhpgaagnjfaaGreatDoorH0x2
import Derived.Test.YtaffhpgaagnjfaaGreatDoorH0x17
import Derived.Test.YtaffhpgaagnjfaaGreatDoorH0x14
import Derived.Test.YtaffhpgaagnjfaaGreatDoorH0x16
import Derived.Test.YtaffhpgaagnjfaaGreatDoorH0x13
import Derived.Test.YtaffhpgaagnjfaaGreatDoorH0x11
set_option linter.all false
open Nat Go.Proofs.Tryz
open Go.Proofs
namespace Go.AEv
variable{P:Ef}{a c i k m n r:Nat}{b:Bool}{f:Eu}{rs:El}{v:Ei}{w:Ea}{x:Ej}
open Go.AuditPlain(qs zm zT numbers zig hi QL)
open CK(VD recC lsV elT elF iO lsT el)
open KA(s is u64z)
def DV(h:n<256):∃s:ByteArray,jM s/\∀w,Calls prog 116 #[.int .u8 (n:Nat)] w λe w2=>Grown w w2/\e = .returned (.string s):=ey (jw ze1 n (Ue (zero_le _) I))
def Rx(h:n<256):∃s:ByteArray,jM s/\∀w,Calls prog 114 #[.int .u8 (n:Nat)] w λe w2=>Grown w w2/\e = .returned (.string s):=ey (jw zkF n (Ue (zero_le _) I))
def aK(h:n<256):∃s:ByteArray,jM s/\∀w,Calls prog 115 #[.int .u8 (n:Nat)] w λe w2=>Grown w w2/\e = .returned (.string s):=ey (jw zfX n (Ue (zero_le _) I))
section
variable[Unk]{val:El}{tabs:List (Nat×X)}
def zh6(n:Nat):J (B val) (u8c n) = .int .u8 (n:Nat):=rfl
def zh7(n:Nat):J (B val) (qc n) = .int .i64 (n:Nat):=rfl
def gf{id:Nat}(h1:100<=id)(h2:id<300)(e:val id = .int .u8 (n:Nat))(hb:b=decide (c<=n)):zu prog tabs (B val) (.bin .geq (.sym id) (u8c c) (qx b)):=by
 refine j8 (k:=.u8) (j:=.u8) (m:=(n:Nat)) (n:=(c:Nat)) (zE h2) trivial (by unfold qx;rw[zo];split<;>trivial) (zF h1 h2 e rfl) rfl (v:=j7 (kV (ilt (n:Nat) (c:Nat)))) rfl ?_;rw[qW,Zi,hb];unfold j7 qx;by_cases h:c<=n
 .rw[Lx h,LC I];rfl
 .rw[LC h,Lx I];rfl
def db{k:Et}(h1:100<=a)(h2:a<300)(h3:100<=r)(b:r<300)(e:val a = .int k (m:Nat))(hc:c≠0)(d:val r = .int k (m % c:Nat)):zu prog tabs (B val) (.bin .rem (.sym a) (.int k (.ofNat c)) (.sym r)):=
 PA (zE h2) (zE b) (zF h1 h2 e rfl) hc (zF h3 b d rfl)
def nJ{j:Nat}(h1:100<=a)(h2:a<300)(d:val a = .int .u8 (m:Nat))(hc:c≠0)(b:m % c=j):zu prog tabs (B val) (.bin .rem (.sym a) (u8c c) (u8c j)):=
 PA (zE h2) trivial (zF h1 h2 d rfl) hc (by rw[b];rfl)
def YY{j:Et}(h1:100<=a)(h2:a<300)(h3:100<=r)(b:r<300)(d:val a = .int j (n:Nat))(c:val r = .int .i64 (n:Nat))(hn:n<1000000):zu prog tabs (B val) (.conv .i64 (.sym a) (.sym r)):=
 Xx (zE h2) (zE b) (zF h1 h2 d rfl) (zF h3 b c rfl) (rl I I)
def Y3{args:List G}{r:G}{a:Eh}(ha:WFs (B val) args)(b:WF (B val) r)(d:(K (B val) args).toArray=a)(c:J (B val) r=v)
  (h:∀w,Calls prog f a w λe w2=>Grown w w2/\e = .returned v):zu prog tabs (B val) (.call f args r):=
 ⟨ha,b,λw _=>by rw[d,c];exact(h w).mono λ_ _ hx=>⟨hx.2,hx.1⟩⟩
end
def zeA(s a p:Nat)(u v t:Ee)(id:Nat):Value:=
 match id with
 | 104=>.int .u8 (s:Nat)|105=>.int .u8 (a:Nat)|106=>.int .u8 (p:Nat)|150=>.string u|151=>.string v|152=>.string t
 | 153=>.int .u8 (s % 4:Nat)|154=>.int .i64 (s % 4:Nat)|155=>.int .i64 (1+s % 4:Nat)|156=>.int .i64 (s:Nat)|157=>.int .i64 ((s:Int)-250)|_=>.int .u8 0
def Rh{s p:Nat}(hs:s<256)(ha:a<256)(hp:p<256):∃(n:Int) (u v:Ee),-250<=n/\n<=5/\jM u/\jM v /\
  ∀w,Calls prog 60 #[.agg #[.int .u8 (s:Nat),.int .u8 (a:Nat),.int .u8 (p:Nat)]] w λe w2=>Grown w w2/\e = .returned (.agg #[.int .i64 n,.string u,.string v]):=by
 obtain⟨u,d,cu⟩:=Rx ha;obtain⟨v,hv,cv⟩:=aK hp;obtain⟨t,y,ct⟩:=DV ha;letI:=unk0;let val:=zeA s a p u v t;let x:Ask:=⟨decide (240<=s),decide (240<=a),if 240<=p then p % 4 else 4⟩
 have hx:x∈asks:=by
  unfold asks;refine AE.2 ⟨x.sess,by cases x.sess<;>simp,AE.2 ⟨x.act,by cases x.act<;>simp,Lv.2 ⟨x.pth,?_,rfl⟩⟩⟩
  have:x.pth<=4:=by
   show(if 240<=p then p % 4 else 4)<=4;split<;>omega
  simp only[Lf,Lq,Lo];omega
 have hc:xH x=true:=aF (p:=xH) (l:=asks) zj4 x hx
 have b:zJ (EN x.facts) (B val):=by
  intro f b;have b:f∈x.facts:=b;unfold Ask.facts at b;rcases LJ.1 b with b|b
  .simp only[Lf,Lq,Lo]at b;rcases b with rfl|rfl|rfl|rfl|rfl|rfl|rfl|rfl|rfl|rfl|rfl
   .exact Y3 ⟨zE C,trivial⟩ (zE C) (by simp only[K];rw[zF C C (show val 105 = .int .u8 (a:Nat) from rfl) rfl]) (zF C C (show val 150 = .string u from rfl) rfl) cu
   .exact Y3 ⟨zE C,trivial⟩ (zE C) (by simp only[K];rw[zF C C (show val 106 = .int .u8 (p:Nat) from rfl) rfl]) (zF C C (show val 151 = .string v from rfl) rfl) cv
   .exact Y3 ⟨zE C,trivial⟩ (zE C) (by simp only[K];rw[zF C C (show val 105 = .int .u8 (a:Nat) from rfl) rfl]) (zF C C (show val 152 = .string t from rfl) rfl) ct
   .exact gf C C (show val 104 = .int .u8 (s:Nat) from rfl) rfl
   .exact gf C C (show val 105 = .int .u8 (a:Nat) from rfl) rfl
   .refine gf C C (show val 106 = .int .u8 (p:Nat) from rfl) ?_;show Nat.blt (if 240<=p then p % 4 else 4) 4=_;rw[zW];split<;>rename_i h
    .rw[Lx h,Lx I]
    .rw[LC h,LC I]
   .exact db C C C C (show val 104 = .int .u8 (s:Nat) from rfl) C rfl
   .exact YY C C C C (show val 153 = .int .u8 (s % 4:Nat) from rfl) rfl I
   .refine j8 (k:=.i64) (j:=.i64) (m:=(1:Nat)) (n:=(s % 4:Nat)) trivial (zE C) (zE C) rfl (zF C C (show val 154 = .int .i64 (s % 4:Nat) from rfl) rfl) (v:=mkInt .i64 (Q1 .i64 (Gd (1:Nat) (s % 4:Nat)))) rfl ?_;rw[kM,yn,dE,rl I I,zF C C (show val 155 = .int .i64 (1+s % 4:Nat) from rfl) rfl];simp[J]
   .exact YY C C C C (show val 104 = .int .u8 (s:Nat) from rfl) rfl I
   .refine j8 (k:=.i64) (j:=.i64) (m:=(s:Nat)) (n:=(250:Nat)) (zE C) trivial (zE C) (zF C C (show val 156 = .int .i64 (s:Nat) from rfl) rfl) rfl (v:=mkInt .i64 (Q1 .i64 (TG (s:Nat) (250:Nat)))) rfl ?_;rw[kM,yn,CS,rl I I,zF C C (show val 157 = .int .i64 ((s:Int)-250) from rfl) rfl];simp[J]
  .rw[zo]at b;split at b
   .rename_i h;rw[zW,Lk]at h;rw[Lu]at b;subst b;refine nJ C C (show val 106 = .int .u8 (p:Nat) from rfl) C ?_;show p % 4=if 240<=p then p % 4 else 4
    have h:(if 240<=p then p % 4 else 4)<4:=h;split at h<;>rename_i h2
    .rw[Y h2]
    .omega
   .cases b
 obtain⟨v0,H',z,c⟩:=QD hc;unfold zcv at c;split at c
 .rename_i c0 c1 c2;simp only[zl,Le]at c;obtain⟨r,k2,k3⟩:=c
  have l1:LI val (-250) 5 c0:=V7 r C C (λi hi=>by
   simp only[Lf,Lq,Lo]at hi;rcases hi with rfl|rfl
   .exact⟨C,C,_,rfl,I,I⟩
   .exact⟨C,C,_,rfl,I,I⟩)
  have l2:LS val c1:=Q7 k2 (λi hi=>by
   simp only[Lf,Lq,Lo]at hi;rcases hi with rfl|rfl
   .exact⟨C,C,u,rfl,d⟩
   .exact⟨C,C,t,rfl,y⟩)
  have g:LS val c2:=Q7 k3 (λi hi=>by
   simp only[Lf,Lq,Lo]at hi;subst hi
   exact⟨C,C,v,rfl,hv⟩)
  obtain⟨n,e1,n1,n2⟩:=l1.ex;obtain⟨s1,T,h2⟩:=l2.ex;obtain⟨s2,Q,h3⟩:=g.ex;refine⟨n,s1,s2,n1,n2,h2,h3,λw=>?_⟩
  have:=eG (val:=val) (UK x.facts []) b rfl z (l:=[c0,c1,c2]) (.inl rfl) (λu d=>by
   simp only[Lf,Lq,Lo]at d;rcases d with rfl|rfl|rfl
   .exact l1.low
   .exact l2.low
   .exact g.low) ⟨l1.wf,l2.wf,g.wf,trivial⟩ ⟨⟨zE C,zE C,zE C,trivial⟩,trivial⟩ (w:=w) ko
  have P:(K (B val) [.agg [.sym 104,.sym 105,.sym 106]]).toArray = #[.agg #[.int .u8 (s:Nat),.int .u8 (a:Nat),.int .u8 (p:Nat)]]:=by
   simp only[K];rw[J,K,K,K,K,zF C C (show val 104 = .int .u8 (s:Nat) from rfl) rfl,zF C C (show val 105 = .int .u8 (a:Nat) from rfl) rfl,zF C C (show val 106 = .int .u8 (p:Nat) from rfl) rfl]
  have H:J (B val) (.agg [c0,c1,c2]) = .agg #[.int .i64 n,.string s1,.string s2]:=by
   rw[J,K,K,K,K,e1,T,Q]
  rw[P,H]at this;exact this
 .cases c
section
open Go.AuditPlain(put qf jT)
section
variable[Unk]{val:El}
def FQ{q:Nat}{v:G}{H:Heap}(h:n9 q v H=true):∃b,v = .osl b (.sym q)/\300<=b/\H.blk.get b=some (.text 5 (.sym q)):=by
 cases v<;>simp only[n9]at h<;>first|(cases h;done)|skip
 rename_i b s;simp only[zl,Le,zK,Lk]at h;obtain⟨h1,h2,h3⟩:=h;obtain rfl:=zV _ _ h2
 cases hb:H.blk.get b with
 | none=>rw[hb]at h3;cases h3
 | some k=>
  rw[hb,ze]at h3
  cases a:bD k with
  | none=>rw[a]at h3;cases h3
  | some p=>
   rw[a,ze]at h3;simp only[Le,zA,Ll]at h3;obtain rfl:=Vt a;have c:=zV _ _ h3.2;exact⟨b,rfl,h1,by rw[hb,h3.1,c]⟩
def IX{E:Env}(_:E.P=prog)(hF:Fit E)(hfacts:zJ E (B val))(h:zP E.tabs=true){args:List G}{q:Nat}{s:Ee}(g:Z5 E f args (n9 q)=true)(h1:100<=q)(h2:q<300)(hq:val q = .string s)
  (hargs:WFs (B val) args) {w:Ea} (ht:ql E.P E.tabs w):Calls E.P f (K (B val) args).toArray w λe w2=>Grown w w2/\∃u b,e = .returned u/\iz prog .u8 5 w w2 s u b:=by
 obtain⟨v,H',k,l⟩:=QD g;obtain⟨b,rfl,h3,n⟩:=FQ l;refine(jC hF C Zx hfacts h k hargs ht).mono λe w2 hx=>?_;obtain⟨m,a,rfl,Q,H,z,y⟩:=hx;obtain⟨x,hx⟩:=LM.1 Q.1;obtain⟨arr,fz,c1,c2⟩:=z.blk b _ x n hx;have t:a.blk b=x.1:=by simp[Inj.blk,hx]
 have r:a.sh b=x.2.1:=by simp[Inj.sh,hx]
 have p:a.ext b=x.2.2:=by simp[Inj.ext,hx]
 have j:J a (.sym q) = .string s:=by
  have:J a (.sym q)=J (B val) (.sym q):=by simp only[J,H q h2]
  rw[this];exact zF h1 h2 hq rfl
 refine⟨m,_,x.1,rfl,x,arr,fz,rfl,?_,y b x h3 hx,c1,?_,c2.size,λi c hc=>c2.cell i c (by rw[j];exact hc),c2.thaw,bV⟩
 .rw[J,j];simp[sOf,Inj.addr,t,r,p]
 .obtain⟨s',d,hle⟩:=c2.is;rw[j]at d;cases d;exact hle
def wg{l:List G}{v:G}{H:Heap}(h:dm l v H=true):∃b cp ex r,v = .slice b 0 l.length cp ex/\300<=b/\H.row b=some r/\r.t=5/\cp<=r.n/\l.length<=cp/\M.Xu l.length r.c 0=some l:=by
 cases v<;>simp only[dm]at h<;>first|(cases h;done)|skip
 rename_i b o n cp ex;simp only[zl,Le,zA,Ll,zK,Lk,jV]at h;obtain⟨rfl,h2,rfl,h3⟩:=h
 cases d:H.row b with
 | none=>rw[d]at h3;cases h3
 | some r=>
  rw[d,ze]at h3;simp only[Le,Ll,Lk]at h3;obtain⟨i,g,f,a⟩:=h3
  cases e:M.Xu l.length r.c 0 with
  | none=>rw[e]at a;cases a
  | some cs=>
   rw[e,ze]at a;obtain rfl:=j5 _ _ a;exact⟨b,cp,ex,r,rfl,h2,d,i,g,f,e⟩
def Ft{E:Env}(Q:E.P=prog)(hF:Fit E)(hfacts:zJ E (B val))(h:zP E.tabs=true){args l:List G}{s:Ee}(a:Z5 E f args (dm l)=true)(hl:∀u∈l,Yt 300 u=true)(hw:WFs (B val) l)
  (hs:K (B val) l=s.data.toList.map λb=>Value.int .u8 b.toNat) (hargs:WFs (B val) args) {w:Ea} (ht:ql E.P E.tabs w):Calls E.P f (K (B val) args).toArray w λe w2=>Grown w w2/\∃u b,e = .returned u/\iz prog .u8 5 w w2 s u b:=by
 obtain⟨v,H',y,z⟩:=QD a;obtain⟨b,cp,ex,r,rfl,h3,h4,n,h6,h7,T⟩:=wg z;refine(jC hF C Zx hfacts h y hargs ht).mono λe w2 hx=>?_;obtain⟨H,t,rfl,a1,a2,p,a4⟩:=hx;refine⟨H,_,t.blk b,rfl,?_⟩;have g:=M.jZ _ _ _ _ T
 have hlen:l.length=s.size:=by
  have:=congrArg List.length hs;rw[zC,Ls,Ls]at this;exact this
 rw[Q]at p
 have:=cn (w:=w) (ex:=ex) (s:=s) (k:=.u8) p h4 a1.1 (λx hx=>a4 b x h3 hx) (by rw[n];exact bV) h6 hlen h7 (λi c hc=>by
  have hi:i<l.length:=by
   rw[hlen];exact(LO.1 hc).1
  have j:=Ly hi;refine⟨l[i],?_,?_⟩
  .have:=g.2 i hi;rw[Lz]at this;rw[this];exact j
  .have m:=YR a2 hl hw;rw[hs,zC]at m;have d:=congrArg (λx:List Value=>x[i]?) m;simp only[Lw,j,LV,hc,Ac,Ag]at d
   exact d)
 rw[n]at this;exact this
end
def ze0{n:Int}(h1:0<=n)(h2:n<256):IntKind.u8.wrap n=n:=by
 unfold IntKind.wrap;simp only[IntKind.signed,IntKind.bits,Bool.false_and];show n % 256=n;omega
section
variable[Unk]{val:El}{tabs:List (Nat×X)}
end
end
structure Sl4 where
 p:Option Addr
 n:Nat
 c:Nat
 bs:List Nat
def Sl4.val(s:Sl4):Value:=.slice s.p s.n s.c
def Sl4.cut(s:Sl4):Value:=.slice s.p 0 s.c
structure Sl4.Ok(s:Sl4):Prop where
 len:s.bs.length=min s.n 4
 cap:s.n<=s.c
 byte:∀b∈s.bs,b<256
 ptr:s.bs≠[]->∃b o,s.p=some ⟨b,o,none⟩
def Sl4.In(s:Sl4)(w:Ea):Prop:=∀b o,s.p=some ⟨b,o,none⟩->s.bs≠[]->∃arr t fz,w.heap[b]?=some (.cells arr t fz)/\∀i (x:Nat),s.bs[i]?=some x->arr[o+i]?=some (.int .u8 (x:Nat))
def Sl4.place(s:Sl4):Nat×Nat×Nat:=if s.bs=[] then(1,0,0) else match s.p with|some a=>(a.block,a.off,s.c-s.bs.length)|none=>(1,0,0)
def u8At(l:Eb)(i:Nat):Nat×Nat×Nat:=(4,(l[i]?).getD 0+1,0)
@[reducible] def unkF (u d:Sl4):Unk where
 val i:=if i=1000 then u.val else if i=1001 then d.val else if i=1002 then u.cut else if i=1003 then d.cut else .int .u8 0
 plain i:=by
  split
  .rfl
  .split
   .rfl
   .split
    .rfl
    .split<;>rfl
 place g:=if g=60 then u.place else if g=61 then d.place else if g=70 then(1000,0,0) else if g=71 then(1001,0,0) else if g=80 then(1002,0,0) else if g=81 then(1003,0,0)
  else if 72<=g/\g<76 then u8At u.bs (g-72) else if 76<=g/\g<80 then u8At d.bs (g-76) else(g,0,0)
 glob g hg:=by
  rw[O I,O I,O I,O I,O I,O I,O I,O I]
def WV[Unk](l:Eb)(i:Nat):qn (u8At l i) = .int .u8 ((l[i]?).getD 0:Nat):=by
 simp[u8At,qn,kOf]
structure bM where
 user:Nat
 perm:Nat
 u:Sl4
 d:Sl4
 why:Bool
 s:Int
 a:ByteArray
 p:ByteArray
structure bM.Ok(x:bM):Prop where
 user:x.user<256
 perm:x.perm<256
 u:x.u.Ok
 d:x.d.Ok
def mG(x:bM)(pa pp:Ee)(pd:Bool)(id:Nat):Value:=
 match id with
 | 107=>.int .u8 (x.user:Nat)|108=>.int .u8 (x.perm:Nat)|114=>.int .i64 x.s|115=>.string x.a|116=>.string x.p|117=>.int .u8 (x.user % 7:Nat)|118=>.int .i64 (x.user % 7:Nat)
 | 119=>.string pa|120=>.string pp|121=>.bool pd|122=>.int .i64 (x.u.n:Nat)|123=>.int .i64 (x.d.n:Nat)
 | 124=>.int .u8 ((x.u.bs[0]?).getD 0 % 8:Nat)|125=>.int .u8 ((x.u.bs[1]?).getD 0 % 8:Nat)|126=>.int .u8 ((x.u.bs[2]?).getD 0 % 8:Nat)|127=>.int .u8 ((x.u.bs[3]?).getD 0 % 8:Nat)
 | 128=>.int .u8 ((x.d.bs[0]?).getD 0 % 8:Nat)|129=>.int .u8 ((x.d.bs[1]?).getD 0 % 8:Nat)|130=>.int .u8 ((x.d.bs[2]?).getD 0 % 8:Nat)|131=>.int .u8 ((x.d.bs[3]?).getD 0 % 8:Nat)
 | 132=>.int .i64 ((x.u.bs[0]?).getD 0 % 8:Nat)|133=>.int .i64 ((x.u.bs[1]?).getD 0 % 8:Nat)|134=>.int .i64 ((x.u.bs[2]?).getD 0 % 8:Nat)|135=>.int .i64 ((x.u.bs[3]?).getD 0 % 8:Nat)
 | 136=>.int .i64 ((x.d.bs[0]?).getD 0 % 8:Nat)|137=>.int .i64 ((x.d.bs[1]?).getD 0 % 8:Nat)|138=>.int .i64 ((x.d.bs[2]?).getD 0 % 8:Nat)|139=>.int .i64 ((x.d.bs[3]?).getD 0 % 8:Nat)
 | 142=>.string ⟨#[0]⟩|143=>.string ⟨#[0]⟩
 | _=>.int .u8 0
def IH:Small ⟨#[0]⟩:=by
 refine⟨C,.inl ⟨C,λi c hc=>?_⟩⟩
 match i,hc with
 | 0,hc=>cases hc;decide
def Pz(x:bM)(b pp:Ee)(a:Bool):iY (mG x b pp a) where
 el i h1 h2:=by
  have:i=132\/i=133\/i=134\/i=135\/i=136\/i=137\/i=138\/i=139:=by omega
  rcases this with rfl|rfl|rfl|rfl|rfl|rfl|rfl|rfl<;>exact⟨_,I,rfl⟩
 st q h1 h2:=by
  have:q=142\/q=143:=by omega
  rcases this with rfl|rfl<;>exact⟨_,rfl,IH⟩
def gU[Unk]{val:El}{tabs:List (Nat×X)}{b:Nat}{l:Eb}(m:k<=4)(ha:72<=a)(j:a+4<=80)(hb:100<=b)(h:b+4<=300)(hc:100<=c)(g:c+4<=300)
  (hp:∀i,i<4->Unk.place (a+i)=u8At l i) (h1:∀i,i<4->val (b+i) = .int .u8 ((l[i]?).getD 0 % 8:Nat)) (h2:∀i,i<4->val (c+i) = .int .i64 ((l[i]?).getD 0 % 8:Nat)) :
  ∀f∈Dt a b c k,zu prog tabs (B val) f:=by
 intro f d;unfold Dt at d;obtain⟨i,hi,d⟩:=AE.1 d;have hi:i<k:=Lr.1 hi;simp only[Lf,Lq,Lo]at d;have e:J (B val) (.sym (a+i)) = .int .u8 ((l[i]?).getD 0:Nat):=by rw[Zr I,hp i I,WV]
 rcases d with rfl|rfl
 .exact PA (zE (by show a+i<300;omega)) (zE (by show b+i<300;omega)) e C (zF (by show 100<=b+i;omega) (by show b+i<300;omega) (h1 i I) rfl)
 .exact YY (by show 100<=b+i;omega) (by show b+i<300;omega) (by show 100<=c+i;omega) (by show c+i<300;omega) (h1 i I) (h2 i I) I
def opq[Unk]{val:El}{g:Nat}(a:g<100)(hp:Unk.place g=(m,0,0))(hv:Unk.val m=v):J (B val) (.sym g)=v:=by rw[Zr a,hp,rF,hv]
def pre_true[Unk]{val:El}{tabs:List (Nat×X)}{s:Sl4}(hs:s.Ok){g q:Nat}(j:g<100)(e:r<100)(hq:q<100)(i:J (B val) (.sym g)=s.val)(f:J (B val) (.sym q)=s.cut)(hp:Unk.place r=s.place)(_:m=0) :
  zu prog tabs (B val) (.ssub (.sym g) (qc s.bs.length) (Mp r q s.bs.length)):=by
 have hle:s.bs.length<=s.c:=by have:=hs.len;have:=hs.cap;omega
 have key:WF (B val) (Mp r q s.bs.length)/\J (B val) (Mp r q s.bs.length) = .slice s.p s.bs.length s.c:=by
  cases d:s.bs.length with
  | zero=>exact⟨zE I,f⟩
  | succ k=>
   obtain⟨b,o,hb⟩:=hs.ptr (by intro h;rw[h]at d;cases d)
   have a:B val r=some (b,o,s.c-(k+1)):=by
    rw[WZ e,hp];unfold Sl4.place;rw[O (by intro h;rw[h]at d;cases d),hb,d]
   refine⟨⟨by rw[a];rfl,Lh _⟩,?_⟩;show J (B val) (.slice r 0 (k+1) (k+1) false)=_;simp only[J,Inj.addr,Inj.blk,Inj.sh,Inj.ext,a,LW,hb];rw[O C,Nat.add_sub_cancel' I];rfl
 exact zef (zE I) trivial key.1 i (zh7 _) hle key.2
def Bz{u:Sl4}(y:u.Ok)(x:u.In w)[Unk]{l:Inj}{row:Nat}(_:row<100)(Q:a+4<=100)(z:∀g,g<100->l g=some (Unk.place g))(H:Unk.place row=u.place)(hp:∀i,i<4->Unk.place (a+i)=u8At u.bs i) :
  ∀p∈Ik row a u.bs.length,zO prog l p.2 (Unk.place p.1) w:=by
 intro p d
 cases e:u.bs.length with
 | zero=>rw[e]at d;cases d
 | succ k=>
  rw[e]at d;have d:p∈[(row,X.view (M.ofList ((List.range (k+1)).map λi=>.sym (Nat.add a i))))]:=d;rw[Lu]at d;subst d;obtain⟨b,o,hb⟩:=y.ptr (by intro h;rw[h]at e;cases e);obtain⟨arr,t,fz,h1,h2⟩:=x b o hb (by intro h;rw[h]at e;cases e);have m:Unk.place row=(b,o,u.c-u.bs.length):=by rw[H];unfold Sl4.place;rw[O (by intro h;rw[h]at e;cases e),hb]
  rw[m];refine⟨arr,t,fz,h1,λi v hv=>?_⟩;rw[M.qy,Lw]at hv;obtain⟨j,r,rfl⟩:=LU.1 hv;have n:i<k+1:=by have:=(LL.1 r).1;simpa using this
  rw[Ah n]at r;cases r;have P:u.bs.length<=4:=by have:=y.len;omega
  have f:=z (a+i) I;refine⟨by show(l (a+i)).isSome=true;rw[f];rfl,?_⟩;show arr[o+i]?=some (qn ((l (a+i)).getD (0,0,0)));rw[f,hp i I,LW,WV];have hx:u.bs[i]?=some u.bs[i]:=Ly I;rw[h2 i _ hx,hx];rfl
def Yi(x:bM):Nat:=if x.why=true then(if x.user % 7=1\/x.user % 7=2\/x.user % 7=3 then x.user % 7 else 4) else 5
def kS(x:bM):Fl:=⟨x.u.bs.length,x.d.bs.length,Yi x⟩
def gi(x:bM)(hx:x.Ok):x.u.bs.length<5/\kS x∈fls x.u.bs.length:=by
 have h1:=hx.u.len;have h2:=hx.d.len;refine⟨I,?_⟩;unfold fls;refine AE.2 ⟨x.d.bs.length,Lr.2 I,Lv.2 ⟨Yi x,?_,rfl⟩⟩;unfold Yi;simp only[Lf,Lq,Lo];split
 .split<;>omega
 .omega
def ub(x:bM)(hx:x.Ok){y pp:Ee}(hc:∀w,Calls prog 183 #[.int .u8 (x.perm:Nat)] w λe w2=>Grown w w2/\e = .returned (.agg #[.string y,.string pp,.bool b])){val:El}
  (hv:∀id,(107<=id/\id<=108)\/(117<=id/\id<140)->val id=mG x y pp b id) {tabs:List (Nat×X)} :
  ∀f∈(kS x).facts,@zu (unkF x.u x.d) prog tabs (@B (unkF x.u x.d) val) f:=by
 letI:=unkF x.u x.d;intro f a;unfold Fl.facts at a;have z:x.u.bs.length<=4:=by have:=hx.u.len;omega
 have H:x.d.bs.length<=4:=by have:=hx.d.len;omega
 have v:∀val,J (B val) (.sym 70)=x.u.val:=λval=>opq C (show Unk.place 70=(1000,0,0) from rfl) rfl;have t:∀val,J (B val) (.sym 71)=x.d.val:=λval=>opq C (show Unk.place 71=(1001,0,0) from rfl) rfl;have r:∀val,J (B val) (.sym 80)=x.u.cut:=λval=>opq C (show Unk.place 80=(1002,0,0) from rfl) rfl;have p:∀val,J (B val) (.sym 81)=x.d.cut:=λval=>opq C (show Unk.place 81=(1003,0,0) from rfl) rfl;have v107:val 107 = .int .u8 (x.user:Nat):=hv 107 I;have v117:val 117 = .int .u8 (x.user % 7:Nat):=hv 117 I
 have g:∀n k:Nat,k=min n 4->(Value.int .i64 (if(4:Int)<(n:Nat) then 4 else(n:Nat))) = .int .i64 (k:Nat):=by
  intro n k e;congr 1;split<;>omega
 rcases LJ.1 a with a|a
 .simp only[Lf,Lq,Lo]at a;rcases a with rfl|rfl|rfl|rfl|rfl|rfl|rfl|rfl|rfl|rfl|rfl
  .exact Q8 (zE C) (zE C) (v val) (zF C C (hv 122 I) rfl)
  .exact Q8 (zE C) (zE C) (t val) (zF C C (hv 123 I) rfl)
  .exact zcl (k:=.i64) (m:=(x.u.n:Nat)) (n:=4) (zE C) trivial trivial (zF C C (hv 122 I) rfl) rfl (by rw[g _ _ hx.u.len];rfl)
  .exact zcl (k:=.i64) (m:=(x.d.n:Nat)) (n:=4) (zE C) trivial trivial (zF C C (hv 123 I) rfl) rfl (by rw[g _ _ hx.d.len];rfl)
  .exact pre_true (m:=0) hx.u C C C (v val) (r val) rfl rfl
  .exact pre_true (m:=0) hx.d C C C (t val) (p val) rfl rfl
  .exact Q8 (n:=0) (zE C) trivial (r val) rfl
  .exact Q8 (n:=0) (zE C) trivial (p val) rfl
  .show zu prog tabs (B val) (.bin .rem (.sym 107) (u8c 7) (ifB (Nat.blt (Yi x) 4) (u8c (Yi x)) (.sym 117)));rw[zo];split
   .rename_i h;rw[zW,Lk]at h;refine nJ C C v107 C ?_;unfold Yi at h ⊢;split at h
    .rename_i hw;rw[Y hw];split at h
     .rename_i h2;rw[Y h2]
     .omega
    .omega
   .exact db C C C C v107 C v117
  .exact YY C C C C v117 (hv 118 I) I
  .refine Y3 ⟨zE C,trivial⟩ ⟨zE C,zE C,zE C,trivial⟩ ?_ ?_ hc
   .simp only[K];rw[zF C C (show val 108 = .int .u8 (x.perm:Nat) from hv 108 I) rfl]
   .rw[J,K,K,K,K,zF C C (show val 119 = .string y from hv 119 I) rfl,zF C C (show val 120 = .string pp from hv 120 I) rfl,zF C C (show val 121 = .bool b from hv 121 I) rfl]
 .rcases LJ.1 a with a|a
  .unfold ze2 at a;rw[zo]at a;split at a
   .rename_i h;rw[zA,Ll]at h;have h:Yi x=4:=h
    have P:¬(x.user % 7=1\/x.user % 7=2\/x.user % 7=3):=by
     unfold Yi at h;split at h
     .split at h<;>omega
     .omega
    simp only[Lf,Lq,Lo]at a
    have j:∀c:Nat,x.user % 7≠c->zu prog tabs (B val) (.eq 1 (.sym 117) (u8c c) false):=λc hc=>
     JQ (k:=.u8) (zE C) trivial (zF C C v117 rfl) (zh6 c) (by
      symm;rw[beq_eq_false_iff_ne]
      omega)
    rcases a with rfl|rfl|rfl
    .exact j 1 I
    .exact j 2 I
    .exact j 3 I
   .cases a
  .rcases LJ.1 a with a|a
   .refine gU (l:=x.u.bs) z C C C C C C (λi hi=>?_) (λi hi=>?_) (λi hi=>?_) f a
    .have:i=0\/i=1\/i=2\/i=3:=by omega
     rcases this with rfl|rfl|rfl|rfl<;>rfl
    .rw[hv (124+i) I];have:i=0\/i=1\/i=2\/i=3:=by omega
     rcases this with rfl|rfl|rfl|rfl<;>rfl
    .rw[hv (132+i) I];have:i=0\/i=1\/i=2\/i=3:=by omega
     rcases this with rfl|rfl|rfl|rfl<;>rfl
   .refine gU (l:=x.d.bs) H C C C C C C (λi hi=>?_) (λi hi=>?_) (λi hi=>?_) f a
    .have:i=0\/i=1\/i=2\/i=3:=by omega
     rcases this with rfl|rfl|rfl|rfl<;>rfl
    .rw[hv (128+i) I];have:i=0\/i=1\/i=2\/i=3:=by omega
     rcases this with rfl|rfl|rfl|rfl<;>rfl
    .rw[hv (136+i) I];have:i=0\/i=1\/i=2\/i=3:=by omega
     rcases this with rfl|rfl|rfl|rfl<;>rfl
def C5(x:bM)(hx:x.Ok)(b:x.u.In w)(hd:x.d.In w):@ql (unkF x.u x.d) prog (kS x).tabs w:=by
 letI:=unkF x.u x.d;refine⟨λid=>some (Unk.place id),λ_ _=>rfl,λp hp=>?_⟩;rcases LJ.1 hp with hp|hp
 .refine Bz hx.u b (a:=72) (row:=60) C C (λ_ _=>rfl) rfl (λi hi=>?_) p hp;have:i=0\/i=1\/i=2\/i=3:=by omega
  rcases this with rfl|rfl|rfl|rfl<;>rfl
 .refine Bz hx.d hd (a:=76) (row:=61) C C (λ_ _=>rfl) rfl (λi hi=>?_) p hp;have:i=0\/i=1\/i=2\/i=3:=by omega
  rcases this with rfl|rfl|rfl|rfl<;>rfl
def zck(h:k<5):bp k=true:=by
 have:k=0\/k=1\/k=2\/k=3\/k=4:=by omega
 rcases this with rfl|rfl|rfl|rfl|rfl
 .exact fl0
 .exact fl1
 .exact fl2
 .exact fl3
 .exact fl4
def zst:List Value:=[.int .i64 0,.slice none 0 0,.slice none 0 0,.int .u64 0,.slice none 0 0,.slice none 0 0,.slice none 0 0,.slice none 0 0,.slice none 0 0,.slice none 0 0]
def pY[Unk](a:Inj):K a Qn=zst:=rfl
def Ia[Unk](a:Inj):WFs a Qn:=⟨trivial,trivial,trivial,trivial,trivial,trivial,trivial,trivial,trivial,trivial,trivial⟩
def bM.args(x:bM):Array Value:=#[.agg #[.int .u8 (x.user:Nat),.int .u8 (x.perm:Nat),x.u.val,x.d.val,.bool x.why],.agg zst.toArray,.agg #[.int .i64 x.s,.string x.a,.string x.p]]
def iv(w w2:Ea)(l1 l2:Ec)(o1 o2:En)(e:Ew):Prop:=
 ∃v1 v2 b1 b2,b1≠b2/\e = .returned (.agg (l1++v1::v2::l2).toArray)/\aa prog .i64 3 w w2 b1 v1 o1/\aa prog .i64 3 w w2 b2 v2 o2
def zai(x:bM)(hx:x.Ok):∃(n:Int) (m pp:Ee) (r:Bool) (o1 o2:En),0<=n/\n<=6/\jM m/\jM pp/\Qc o1/\Qc o2 /\
  ∀w,x.u.In w->x.d.In w->Calls prog 64 x.args w λe w2=>Grown w w2/\iv w w2 [.int .i64 n] [.string m,.string pp,.bool r] o1 o2 e:=by
 obtain⟨m,pp,r,T,z2,hc⟩:=lS (n:=x.perm) (jw pm1 x.perm (Ue (zero_le _) (by have:=hx.perm;omega)));letI:=unkF x.u x.d;let val:=mG x m pp r;obtain⟨m1,m2⟩:=gi x hx;have g:gL (kS x)=true:=aF (p:=gL) (l:=fls x.u.bs.length) (zck m1) (kS x) m2;unfold gL at g;rw[zl,Le]at g;obtain⟨Q,g⟩:=g;have P:zJ (iA (kS x).facts (kS x).tabs) (B val):=λf P=>ub x hx hc (val:=val) (λ_ _=>rfl) f P;obtain⟨v0,H',hr,t⟩:=QD g;unfold zgJ at t;split at t
 .rename_i a c d p q b;simp only[zl,Le]at t;obtain⟨k1,k2,k3,k4,k5,k6,k7⟩:=t
  have l1:LI val 0 6 a:=V7 k1 C C (λi hi=>by
   simp only[Lf,Lq,Lo]at hi;subst hi
   exact⟨C,C,_,rfl,I,I⟩)
  have l2:LS val p:=Q7 k5 (λi hi=>by
   simp only[Lf,Lq,Lo]at hi;subst hi
   exact⟨C,C,m,rfl,T⟩)
  have H:LS val q:=Q7 k6 (λi hi=>by
   simp only[Lf,Lq,Lo]at hi;subst hi
   exact⟨C,C,pp,rfl,z2⟩)
  have z:LB val b:=oa k7 (λi hi=>by
   simp only[Lf,Lq,Lo]at hi;subst hi
   exact⟨C,C,r,rfl⟩)
  obtain⟨n,e1,n1,n2⟩:=l1.ex;obtain⟨s1,e2,h2⟩:=l2.ex;obtain⟨s2,e3,h3⟩:=H.ex;obtain⟨b0,e4⟩:=z.ex;have k:WFs (B val) (kS x).args:=⟨⟨zE C,zE C,zE C,zE C,by unfold nb;rw[zo];split<;>trivial,trivial⟩,Ia _,⟨zE C,zE C,zE C,trivial⟩,trivial⟩
  obtain⟨r1,r2,r3⟩:=Ca (l1:=[a]) (l2:=[p,q,b]) (UK (kS x).facts (kS x).tabs) (Pz x m pp r) P Q XN hr (λu j=>by rw[Lu]at j;rw[j];exact l1.low) (λu j=>by
   simp only[Lf,Lq,Lo]at j;rcases j with rfl|rfl|rfl
   .exact l2.low
   .exact H.low
   .exact z.low) ⟨l1.wf,trivial⟩ ⟨l2.wf,H.wf,z.wf,trivial⟩ k2 k3 k4 k
  refine⟨n,s1,s2,b0,_,_,n1,n2,h2,h3,r1,r2,λw j hd=>?_⟩;have:=r3 w (C5 x hx j hd)
  have ea:(K (B val) (kS x).args).toArray=x.args:=by
   have hw:J (B val) (nb (Yi x)) = .bool x.why:=by
    unfold nb Yi;cases x.why
    .rfl
    .rw[Y rfl];by_cases h:x.user % 7=1\/x.user % 7=2\/x.user % 7=3
     .rw[Y h,zo,zA,O (by rw[Ll];omega)];rfl
     .rw[O h];rfl
   have y:J (B val) (.sym 70)=x.u.val:=opq C (show Unk.place 70=(1000,0,0) from rfl) rfl;have v:J (B val) (.sym 71)=x.d.val:=opq C (show Unk.place 71=(1001,0,0) from rfl) rfl;show(K (B val) [.agg [.sym 107,.sym 108,.sym 70,.sym 71,nb (Yi x)],.agg Qn,.agg [.sym 114,.sym 115,.sym 116]]).toArray=_;simp only[K];rw[J,J,J,pY];simp only[K]
   rw[hw,y,v,zF C C (show val 107 = .int .u8 (x.user:Nat) from rfl) rfl,zF C C (show val 108 = .int .u8 (x.perm:Nat) from rfl) rfl,
    zF C C (show val 114 = .int .i64 x.s from rfl) rfl,zF C C (show val 115 = .string x.a from rfl) rfl,zF C C (show val 116 = .string x.p from rfl) rfl]
   rfl
  rw[ea]at this;refine this.mono λe w2 hx=>⟨hx.1,?_⟩
  obtain⟨_,v1,v2,b1,b2,q1,q2,q3,q4⟩:=hx;refine⟨v1,v2,b1,b2,q1,?_,q3,q4⟩;rw[q2];simp only[K];rw[e1,e2,e3,e4]
 .cases t
structure J2 where
 ten:Nat
 ver:Nat
 day:Nat
 odd:Nat
 rs:Nat
 ra:Nat
 rp:Nat
 granted:Bool
 right:Bool
 user:Nat
 perm:Nat
 u:Sl4
 d:Sl4
 why:Bool
 num:Nat
structure J2.Ok(x:J2):Prop where
 num:1<=x.num/\x.num<=8
 ten:x.ten<256
 ver:x.ver<256
 day:x.day<256
 odd:x.odd<256
 rs:x.rs<256
 ra:x.ra<256
 rp:x.rp<256
 user:x.user<256
 perm:x.perm<256
 u:x.u.Ok
 d:x.d.Ok
def J2.yX(x:J2):List Value:=[.int .u8 (x.ten:Nat),.int .u8 (x.ver:Nat),.int .u8 (x.day:Nat),.int .u8 (x.odd:Nat),.int .u8 (x.rs:Nat),.int .u8 (x.ra:Nat),.int .u8 (x.rp:Nat),.bool x.granted,.bool x.right,
 .int .u8 (x.user:Nat),.int .u8 (x.perm:Nat),x.u.val,x.d.val,.bool x.why]
def J2.args(x:J2):Array Value:=#[.agg x.yX.toArray,.int .i64 (x.num:Nat),.slice none 0 0]
structure zy where
 number:Int
 version:Int
 tenant:ByteArray
 session:Int
 action:ByteArray
 path:ByteArray
 day:Int
 granted:Bool
 user:Int
 up:Option ByteArray
 down:Option ByteArray
 does:ByteArray
 at_:ByteArray
 deep:Bool
def zy.l1(r:zy):List Value:=[.int .i64 r.number,.int .i64 r.version,.string r.tenant,.int .i64 r.session,.string r.action,.string r.path,.int .i64 r.day,.bool r.granted,.int .i64 r.user]
def zy.l2(r:zy):List Value:=[.string r.does,.string r.at_,.bool r.deep]
structure zy.Ok(r:zy):Prop where
 number:1<=r.number/\r.number<=9
 version:-1<=r.version/\r.version<=2147483647
 tenant:jM r.tenant
 session:-250<=r.session/\r.session<=5
 action:jM r.action
 path:jM r.path
 day:0<=r.day/\r.day<=30001
 user:0<=r.user/\r.user<=257
 up:Qc r.up
 down:Qc r.down
 does:jM r.does
 at_:jM r.at_
def Uz(x:J2)(s:Int)(a p:Ee)(n:Int)(pa pp:Ee)(pd:Bool)(o1 o2:En)(id:Nat):Value:=
 match id with
 | 100=>.int .u8 (x.ten:Nat)|101=>.int .u8 (x.ver:Nat)|102=>.int .u8 (x.day:Nat)|103=>.int .u8 (x.odd:Nat)|104=>.int .u8 (x.rs:Nat)|105=>.int .u8 (x.ra:Nat)|106=>.int .u8 (x.rp:Nat)
 | 107=>.int .u8 (x.user:Nat)|108=>.int .u8 (x.perm:Nat)|110=>.int .u8 (x.ver % 5:Nat)|111=>.int .i64 (x.ver % 5:Nat)|112=>.int .u8 (x.day % 32:Nat)|113=>.int .i64 (x.day % 32:Nat)
 | 114=>.int .i64 s|115=>.string a|116=>.string p|118=>.int .i64 n|119=>.string pa|120=>.string pp|121=>.bool pd|140=>.bool x.granted|141=>.bool x.why|144=>.int .i64 (x.num:Nat)|145=>.int .i64 (x.num+1:Nat)
 | 132=>.int .i64 0|133=>.int .i64 0|134=>.int .i64 0|135=>.int .i64 0|136=>.int .i64 0|137=>.int .i64 0|138=>.int .i64 0|139=>.int .i64 0
 | 142=>.string (o1.getD ⟨#[0]⟩)|143=>.string (o2.getD ⟨#[0]⟩)|_=>.int .u8 0
section
open Go.AuditPlain(put jT)
structure zbT(w:Ea)(s:Ee)(v:Ei)(x:Ej)(arr:Eh)(fz:Nat×Nat):Prop where
 is:v = .slice (some ⟨x.1,x.2.1,none⟩) s.size x.2.2
 row:w.heap[x.1]?=some (.cells arr 3 fz)
 cap:s.size<=x.2.2
 size:x.2.1+x.2.2<=arr.size
 cell:∀(i:Nat) (b:UInt8),s.data[i]?=some b->arr[x.2.1+i]?=some (.int .i64 b.toNat)
 thaw:∀i,i<arr.size->¬(fz.1<=i/\i<fz.2)
def AtS(w:Ea)(v:Ei):Option ByteArray->Prop
 | none=>v = .slice none 0 0
 | some s=>∃x arr fz,zbT w s v x arr fz
def zbT.text{s:Ee}{arr:Eh}{fz:Nat×Nat}(h:zbT w s v x arr fz)[Unk]{γ:Inj}{q:G}(hq:WF γ q)(hs:J γ q = .string s):Qa prog γ .i64 3 q x.2.1 x.2.2 arr fz:=
 ⟨hq,⟨s,hs,h.cap⟩,h.size,λi b hb=>h.cell i b (by rw[hs]at hb;exact hb),h.thaw,XN⟩
def SX{v:Nat}(h:v<2097152):(put v).length<=3/\0<(put v).length:=by
 unfold put;rw[Lm];refine⟨?_,Oc⟩
 have:(hi (v / 128)).length<=2:=by
  by_cases h1:v / 128=0
  .rw[h1,jT];simp
  .rw[QL h1];by_cases h2:v / 128 / 128=0
   .rw[h2,jT];simp
   .rw[QL h2,show v / 128 / 128 / 128=0 by omega,jT];simp
 simp only[Am,List.length_nil];omega
def Ui{v:Nat}(h:v<128):put v=[v]:=by
 unfold put;rw[show v / 128=0 by omega,jT,AA h];rfl
section
variable[Unk]{val:El}{tabs:List (Nat×X)}
def Fh{args:List G}{q:Nat}{s:Ee}{a:Eh}(h1:100<=q)(h2:q<300)(hq:val q = .string s)(ha:WFs (B val) args)(c:(K (B val) args).toArray=a)
  (hc:∀w,ql prog tabs w->Calls prog f a w λe w2=>Grown w w2/\∃u b,e = .returned u/\iz prog .u8 5 w w2 s u b):zu prog tabs (B val) (lk f args q):=
 mj ha h2 (zE h2) (zF h1 h2 hq rfl) (λw hw=>by rw[c];exact hc w hw)
def ax{q:Nat}{s:Ee}(h1:100<=q)(h2:q<300)(hq:val q = .string s)(hs:0<s.size):zu prog tabs (B val) (bU q):=by
 refine XS (zE h2) (by intro b hb;cases hb) (zF h1 h2 hq rfl) rfl ?_;symm;rw[LH];intro h;rw[h]at hs;cases hs
def P8{a b:G}{s t:Eb}(h:WF (B val) a)(g:WF (B val) b)(ha:J (B val) a = .string (str s))(hb:J (B val) b = .string (str t))(h1:100<=r)(h2:r<300)(e:val r = .string (str (s++t)))(h3:100<=n)(c:n<300)
  (hn:val n = .int .i64 ((s++t).length:Nat)) (hl:(s++t).length<=1000000):∀f∈zbu a b r n,zu prog tabs (B val) f:=by
 intro f d;unfold zbu at d;simp only[Lf,Lq,Lo]at d;have i:s.length+t.length<=1000000:=by rw[<- Lm];exact hl
 rcases d with rfl|rfl|rfl
 .exact zgN h g (zE h2) ha hb (by rw[zF h1 h2 e rfl,VS]) (by rw[qA,qA];omega)
 .exact XR (zE h2) (zE c) (zF h1 h2 e rfl) (by rw[zF h3 c hn rfl,qA])
 .exact gl (zE c) (zF h3 c hn rfl) I
end
def zR(s:Ee):(zG s).length=s.size:=by
 unfold zG;rw[jI,Ls];rfl
noncomputable def zI:Option ByteArray->List Nat
 | none=>[]
 | some s=>zG s
def ZI(l:Eb)(i:Nat):Nat×Nat×Nat:=(3,(l[i]?).getD 0+1,0)
def kY[Unk](l:Eb)(i:Nat):qn (ZI l i) = .int .i64 ((l[i]?).getD 0:Nat):=by simp[ZI,qn,kOf]
@[reducible] def unkN (x:Ej) (n:Nat) (l:Eb):Unk where
 val _:=.int .u8 0
 plain _:=rfl
 place g:=if g=60 then(x.1,x.2.1,x.2.2-n) else if 72<=g/\g<77 then ZI l (g-72) else(g,0,0)
 glob g hg:=by rw[O I,O I]
end
section
open Go.AuditPlain(put jT)
def JC(s:Ee)(i:Nat):(zG s)[i]?=(s.data[i]?).map UInt8.toNat:=by
 unfold zG;rw[jI,Lw,LV]
end
section
open Go.AuditPlain(put jT)
noncomputable def zy.qC(r:zy):AuditPlain.Rec:=⟨r.number.toNat,r.version.toNat,zG r.tenant,r.session,zG r.action,zG r.path,r.day.toNat,r.granted,r.user.toNat,zI r.up,zI r.down,zG r.does,zG r.at_,r.deep⟩
def Zs(s:Ee):Nat×Nat×Nat:=(8,ofStr s.data.toList+1,0)
def kW[Unk](s:Ee):qn (Zs s) = .string s:=by
 simp only[Zs,qn,kOf];rw[X2 _ _ (Lh _)]
@[reducible] def unkB (x1 x2:Ej) (s1 s2:Ee):Unk where
 val _:=.int .u8 0
 plain _:=rfl
 place g:=if g=60 then x1 else if g=61 then x2 else if g=70 then Zs s1 else if g=71 then Zs s2 else(g,0,0)
 glob g hg:=by rw[O I,O I,O I,O I]
def Ya(b:Bool):(zT b).length=1:=by cases b<;>rfl
def tZ:∀(l:List (List Nat)),(∀b∈l,b.length<=200)->l.flatten.length<=200*l.length
 | [],_=>Lh _
 | b::l,h=>by
  have h1:=h b LG;have h2:=tZ l λc hc=>h c (LP _ hc);rw[AY,Lm,Am];omega
end
noncomputable section
def zgj(b:X):Bool:=match b with|.cells _ _ c=>VN isLit c|_=>false
def Gb{U1 U2:Unk}{β β':Inj}{v:G}(h:isLit v=true)(hw:@WF U1 β v):@WF U2 β' v/\@J U2 β' v = @J U1 β v:=by
 cases v<;>first|(cases h;done)|exact⟨trivial,rfl⟩|exact⟨hw,rfl⟩
def Ny{U1 U2:Unk}{g β':Inj}{b:X}(h:zgj b=true)(hb:@zO U1 P g b x w):@zO U2 P β' b x w:=by
 cases b<;>first|(cases h;done)|skip
 rename_i t n c;obtain⟨arr,fz,h1,h2⟩:=hb;have g1:=@kE.size U1 _ _ _ _ _ _ _ _ _ h2;have e:=@kE.cell U1 _ _ _ _ _ _ _ _ _ h2;have d:=@kE.thaw U1 _ _ _ _ _ _ _ _ _ h2;have a:=@kE.al U1 _ _ _ _ _ _ _ _ _ h2;refine⟨arr,fz,h1,@kE.mk U2 _ _ _ _ _ _ _ _ _ g1 (λi v hv=>?_) d a⟩;obtain⟨l,k⟩:=e i v hv;obtain⟨j,f⟩:=Gb (U1:=U1) (U2:=U2) (β':=β') (eT _ _ _ h v hv) l;exact⟨j,by rw[f];exact k⟩
def WO(w:Ea):Prop:=@ql unk0 prog tabs w
def Iv:tabs.all (λp=>zgj p.2&&Nat.blt p.1 60)=true:=U
theorem rE[Unk]{w:Ea}{g:Inj}(h:WO w):∀p∈tabs,zO prog g p.2 (Unk.place p.1) w:=by
 intro p hp;have h1:=Ad.1 Iv p hp;rw[Le,zW,Lk]at h1;obtain⟨β0,_,h3⟩:=h;have:=h3 p hp;rw[Unk.glob p.1 h1.2];exact Ny h1.1 this
def Iw:(1,X.cells 401 24 (M.ofList (rounds.map λn=>.int .u64 (Int.ofNat n))))∈tabs:=LG
def bQ(a k:Nat):X:=.view (M.ofList ((List.range k).map λi=>.sym (a+i)))
def ru{s:Sl4}(hs:s.Ok)(m:s.In w)(r:WO w)[Unk]{f:Inj}(ha:a+4<=100)(p:∀g,g<100->f g=some (Unk.place g))(hp:∀i,i<4->Unk.place (a+i)=u8At s.bs i) :
  zO prog f (bQ a s.bs.length) s.place w:=by
 by_cases h:s.bs=[]
 .have x:s.bs.length=0:=by rw[h];rfl
  unfold Sl4.place;rw[Y h,x];obtain⟨arr,fz,h1,_⟩:=@rE (unk0) w (λid=>some (id,0,0)) r _ Iw;refine⟨arr,401,fz,h1,λi v hv=>?_⟩;rw[M.qy]at hv;cases hv
 .have n:0<s.bs.length:=AV.2 h;obtain⟨b,o,hb⟩:=hs.ptr h;obtain⟨arr,t,fz,h1,h2⟩:=m b o hb h;have k:s.place=(b,o,s.c-s.bs.length):=by unfold Sl4.place;rw[O h,hb]
  rw[k];refine⟨arr,t,fz,h1,λi v hv=>?_⟩;rw[M.qy,Lw]at hv;obtain⟨j,l,rfl⟩:=LU.1 hv;have d:i<s.bs.length:=by have:=(LL.1 l).1;simpa using this
  rw[Ah d]at l;cases l;have u:s.bs.length<=4:=by have:=hs.len;omega
  have e:=p (a+i) I;refine⟨by show(f (a+i)).isSome=true;rw[e];rfl,?_⟩;show arr[o+i]?=some (qn ((f (a+i)).getD (0,0,0)));rw[e,hp i I,LW,WV];have hx:s.bs[i]?=some s.bs[i]:=Ly d;rw[h2 i _ hx,hx];rfl
def CX{s:Sl4}(hs:s.Ok)[Unk]{d:Inj}(ha:a+4<=100)(k:∀g,g<100->d g=some (Unk.place g))(hp:∀i,i<4->Unk.place (a+i)=u8At s.bs i)
  (h:zO prog d (bQ a s.bs.length) s.place w):s.In w:=by
 intro b o hb f;obtain⟨arr,t,fz,h1,h2⟩:=h;have e:s.place=(b,o,s.c-s.bs.length):=by unfold Sl4.place;rw[O f,hb]
 rw[e]at h1 h2;refine⟨arr,t,fz,h1,λi x hx=>?_⟩;have j:=(LL.1 hx).1;have l:s.bs.length<=4:=by have:=hs.len;omega
 have h3:=(h2 i (.sym (a+i)) (by rw[M.qy,Lw,Ah j];rfl)).2;have h3:arr[o+i]?=some (qn ((d (a+i)).getD (0,0,0))):=h3;rw[k (a+i) I,hp i I,LW,WV,hx]at h3;exact h3
def Mq(u d:Sl4)(i:Nat)(hi:i<4):(unkF u d).place (72+i)=u8At u.bs i:=by
 have:i=0\/i=1\/i=2\/i=3:=by omega
 rcases this with rfl|rfl|rfl|rfl<;>rfl
def Mr(u d:Sl4)(i:Nat)(hi:i<4):(unkF u d).place (76+i)=u8At d.bs i:=by
 have:i=0\/i=1\/i=2\/i=3:=by omega
 rcases this with rfl|rfl|rfl|rfl<;>rfl
def oL[Unk]{val:El}(hv:iY val)(p:∃n:Int,val 144 = .int .i64 n/\1<=n/\n<=9)(m:∃n:Int,val 145 = .int .i64 n/\1<=n/\n<=9)(y:∃n:Int,val 111 = .int .i64 n/\-1<=n/\n<=4)(x:∃n:Int,val 114 = .int .i64 n/\-250<=n/\n<=5)(v:∃s,val 115 = .string s/\jM s)(r:∃s,val 116 = .string s/\jM s)
  (h113:∃n:Int,val 113 = .int .i64 n/\0<=n/\n<=30001) (h118:∃n:Int,val 118 = .int .i64 n/\0<=n/\n<=257) (h119:∃s,val 119 = .string s/\jM s) (h120:∃s,val 120 = .string s/\jM s) (h121:∃b,val 121 = .bool b)
  {l:List Fact}{t:List (Nat×X)}{args:List G} (hfacts:zJ (iA l t) (B val)) (hcl:zP t=true) (hchk:Z5 (iA l t) 24 args uc=true) (hargs:WFs (B val) args) :
  ∃R:zy,(R.Ok/\R.version<=4)/\∀w,ql prog t w->Calls prog 24 (K (B val) args).toArray w λe w2=>Grown w w2/\iv w w2 R.l1 R.l2 R.up R.down e:=by
 obtain⟨v0,H',hr,g⟩:=QD hchk;unfold uc at g;split at g
 .rename_i c0 c1 c2 c3 c4 c5 c6 c7 c8 c9 c10 P H z;simp only[zl,Le]at g;obtain⟨k0,k1,k2,k3,k4,k5,k6,k7,k8,k9,k10,kn,k11,k12,k13⟩:=g;have one:∀ {Q:Em}{j:Nat},Q j->∀i∈[j],Q i:=λh i hi=>by rw[Lu]at hi;rw[hi];exact h
  have two:∀ {Q:Em}{j k:Nat},Q j->Q k->∀i∈[j,k],Q i:=λh h' i hi=>by
   simp only[Lf,Lq,Lo]at hi;rcases hi with rfl|rfl
   .exact h
   .exact h'
  have l0:LI val 1 9 c0:=V7 k0 C C (two ⟨C,C,p⟩ ⟨C,C,m⟩);have l1:LI val (-1) 4 c1:=V7 k1 C C (one ⟨C,C,y⟩);have l2:LS val c2:=Q7 k2 (λi hi=>by cases hi);have l3:LI val (-250) 5 c3:=V7 k3 C C (one ⟨C,C,x⟩);have l4:LS val c4:=Q7 k4 (one ⟨C,C,v⟩);have l5:LS val c5:=Q7 k5 (one ⟨C,C,r⟩);have l6:LI val 0 30001 c6:=V7 k6 C C (one ⟨C,C,h113⟩);have l7:LB val c7:=oa k7 (λi hi=>by cases hi);have l8:LI val 0 257 c8:=V7 k8 C C (one ⟨C,C,h118⟩);have d:LS val P:=Q7 k11 (one ⟨C,C,h119⟩);have c:LS val H:=Q7 k12 (one ⟨C,C,h120⟩);have a:LB val z:=oa k13 (one ⟨C,C,h121⟩);obtain⟨n0,e0,r0⟩:=l0.ex;obtain⟨n1,e1,r1⟩:=l1.ex;obtain⟨n2,e2,r2⟩:=l2.ex;obtain⟨n3,e3,r3⟩:=l3.ex;obtain⟨n4,e4,r4⟩:=l4.ex;obtain⟨n5,e5,r5⟩:=l5.ex;obtain⟨n6,e6,r6⟩:=l6.ex;obtain⟨n7,e7⟩:=l7.ex;obtain⟨n8,e8,r8⟩:=l8.ex;obtain⟨n11,e11,r11⟩:=d.ex;obtain⟨n12,e12,T⟩:=c.ex;obtain⟨n13,e13⟩:=a.ex
  obtain⟨q1,q2,q3⟩:=Ca (l1:=[c0,c1,c2,c3,c4,c5,c6,c7,c8]) (l2:=[P,H,z]) (UK l t) hv hfacts hcl XN hr (λu f=>by
   simp only[Lf,Lq,Lo]at f;rcases f with rfl|rfl|rfl|rfl|rfl|rfl|rfl|rfl|rfl
   .exact l0.low
   .exact l1.low
   .exact l2.low
   .exact l3.low
   .exact l4.low
   .exact l5.low
   .exact l6.low
   .exact l7.low
   .exact l8.low) (λu f=>by
   simp only[Lf,Lq,Lo]at f;rcases f with rfl|rfl|rfl
   .exact d.low
   .exact c.low
   .exact a.low) ⟨l0.wf,l1.wf,l2.wf,l3.wf,l4.wf,l5.wf,l6.wf,l7.wf,l8.wf,trivial⟩ ⟨d.wf,c.wf,a.wf,trivial⟩ k9 k10 kn hargs
  refine⟨⟨n0,n1,n2,n3,n4,n5,n6,n7,n8,_,_,n11,n12,n13⟩,⟨⟨r0,⟨r1.1,by show n1<=2147483647;omega⟩,r2,r3,r4,r5,r6,r8,q1,q2,r11,T⟩,r1.2⟩,λw hw=>(q3 w hw).mono λe w2 hx=>⟨hx.1,?_⟩⟩;obtain⟨_,v1,v2,b1,b2,g1,g2,g3,g4⟩:=hx;refine⟨v1,v2,b1,b2,g1,?_,g3,g4⟩;rw[g2];simp only[K];rw[e0,e1,e2,e3,e4,e5,e6,e7,e8,e11,e12,e13];rfl
 .cases g
end
def yD(x:J2):Nat:=if 1<=x.odd/\x.odd<=10 then x.odd else 0
def MP(x:J2):yD x<11:=by unfold yD;split<;>omega
def oy(x:J2)(hx:x.Ok){s:Int}{a p:Ee}(hc:∀w,Calls prog 60 #[.agg #[.int .u8 (x.rs:Nat),.int .u8 (x.ra:Nat),.int .u8 (x.rp:Nat)]] w λe w2=>Grown w w2/\e = .returned (.agg #[.int .i64 s,.string a,.string p]))
  [Unk] {val:El}{tabs:List (Nat×X)}{n:Int}{pa pp:Ee}{pd:Bool}{o1 o2:En} (hv:∀id,100<=id->id<117->val id=Uz x s a p n pa pp pd o1 o2 id) (h144:val 144 = .int .i64 (x.num:Nat)) (h145:val 145 = .int .i64 (x.num+1:Nat)) :
  ∀f∈VM (x.ten % 3) (yD x),zu prog tabs (B val) f:=by
 intro f b;unfold VM at b;have t:val 100 = .int .u8 (x.ten:Nat):=hv 100 C C;have r:val 101 = .int .u8 (x.ver:Nat):=hv 101 C C;have m:val 102 = .int .u8 (x.day:Nat):=hv 102 C C;have l:val 103 = .int .u8 (x.odd:Nat):=hv 103 C C;have d:val 110 = .int .u8 (x.ver % 5:Nat):=hv 110 C C;have j:val 111 = .int .i64 (x.ver % 5:Nat):=hv 111 C C;have c:val 112 = .int .u8 (x.day % 32:Nat):=hv 112 C C;have g:val 113 = .int .i64 (x.day % 32:Nat):=hv 113 C C;rcases LJ.1 b with b|b
 .simp only[Lf,Lq,Lo]at b;rcases b with rfl|rfl|rfl|rfl|rfl|rfl|rfl
  .exact db C C C C r C d
  .exact YY C C C C d j I
  .exact nJ C C t C rfl
  .exact db C C C C m C c
  .exact YY C C C C c g I
  .refine j8 (zE C) trivial (zE C) (zF C C h144 rfl) (show J (B val) (qc 1) = .int .i64 ((1:Nat):Int) from rfl) (v:=.int .i64 ((x.num+1:Nat):Int)) ?_ (zF C C h145 rfl).symm;have:=hx.num;have z:x.num=1\/x.num=2\/x.num=3\/x.num=4\/x.num=5\/x.num=6\/x.num=7\/x.num=8:=by omega
   rcases z with h|h|h|h|h|h|h|h<;>(rw[h];rfl)
  .refine Y3 ⟨⟨zE C,zE C,zE C,trivial⟩,trivial⟩ ⟨zE C,zE C,zE C,trivial⟩ ?_ ?_ hc
   .simp only[K];rw[J,K,K,K,K,zF C C (show val 104 = .int .u8 (x.rs:Nat) from hv 104 C C) rfl,zF C C (show val 105 = .int .u8 (x.ra:Nat) from hv 105 C C) rfl,zF C C (show val 106 = .int .u8 (x.rp:Nat) from hv 106 C C) rfl]
   .rw[J,K,K,K,K,zF C C (show val 114 = .int .i64 s from hv 114 C C) rfl,zF C C (show val 115 = .string a from hv 115 C C) rfl,zF C C (show val 116 = .string p from hv 116 C C) rfl]
 .have u:∀o,yD x=o->f∈zgb o->zu prog tabs (B val) f:=by
   intro o u b
   cases o with
   | succ o=>cases b
   | zero=>
    have b:f∈(List.range 10).map λi=>Fact.eq 1 (.sym 103) (u8c (Nat.succ i)) false:=b;obtain⟨i,hi,rfl⟩:=Lv.1 b;have hi:i<10:=Lr.1 hi
    have y:¬(1<=x.odd/\x.odd<=10):=by
     intro h;unfold yD at u;rw[Y h]at u;omega
    refine JQ (k:=.u8) (zE C) trivial (zF C C l rfl) (zh6 (i+1)) ?_;symm;rw[beq_eq_false_iff_ne];omega
  exact u _ rfl b
def Z4[Unk](a:Inj)(l:List G):J a (.agg l) = .agg (K a l).toArray:=rfl
def oz(x:J2)[Unk]{val:El}{s:Int}{a p:Ee}{n:Int}{y pp:Ee}{o1 o2:En}(hv:∀id,(100<=id/\id<117)\/140<=id->val id=Uz x s a p n y pp b o1 o2 id)
  (p70:J (B val) (.sym 70)=x.u.val) (p71:J (B val) (.sym 71)=x.d.val) {o m:Nat}{why:G} (ho:J (B val) (Ta o) = .int .u8 (x.odd:Nat)) (hg:J (B val) (Wv m) = .bool x.granted) (hr:J (B val) (eK m) = .bool x.right) (hw:J (B val) why = .bool x.why) :
  (K (B val) (tF o m why)).toArray=x.args:=by
 show(K (B val) [.agg [.sym 100,.sym 101,.sym 102,Ta o,.sym 104,.sym 105,.sym 106,Wv m,eK m,.sym 107,.sym 108,.sym 70,.sym 71,why],.sym 144,.nilslice]).toArray=_;have v:∀id w,(100<=id/\id<117)->Uz x s a p n y pp b o1 o2 id=w->yc w=true->J (B val) (.sym id)=w:=λid w h e c=>zF h.1 I ((hv id (.inl h)).trans e) c;rw[K,K,K,K,Z4];simp only[K];rw[ho,hg,hr,hw,p70,p71,v 100 _ C rfl rfl,v 101 _ C rfl rfl,v 102 _ C rfl rfl,v 104 _ C rfl rfl,v 105 _ C rfl rfl,v 106 _ C rfl rfl,v 107 _ C rfl rfl,v 108 _ C rfl rfl,zF C C ((hv 144 (.inr C)).trans (show Uz x s a p n y pp b o1 o2 144 = .int .i64 (x.num:Nat) from rfl)) rfl];rfl
def NN[Unk]{val:El}{o:Nat}{a:G}(hw:WF (B val) a):WFs (B val) (tF o m a):=by
 refine⟨⟨zE C,zE C,zE C,?_,zE C,zE C,zE C,?_,?_,zE C,zE C,zE C,zE C,hw,trivial⟩,zE C,trivial,trivial⟩
 .cases o with
  | zero=>exact zE C
  | succ o=>trivial
 .match m with
  | 0=>exact zE C
  | 1=>trivial
  | m+2=>trivial
 .cases m<;>trivial
def fj(x:J2)[Unk]{val:El}(h:val 103 = .int .u8 (x.odd:Nat)):J (B val) (Ta (yD x)) = .int .u8 (x.odd:Nat):=by
 unfold yD;split
 .rename_i a
  cases b:x.odd with
  | zero=>omega
  | succ k=>rfl
 .exact zF C C h rfl
def zcV{t:Nat}(h:jb t k=true):∀y∈fls k,Wy t y=true:=aF (p:=Wy t) (l:=fls k) h
def zcW{t:Nat}(a:t=0\/t=1\/t=2)(b:k=0\/k=1\/k=2\/k=3\/k=4):jb t k=true:=by
 rcases a with rfl|rfl|rfl<;>rcases b with rfl|rfl|rfl|rfl|rfl
 .exact zfz
 .exact zfy
 .exact zfx
 .exact zfw
 .exact zfv
 .exact zfu
 .exact zft
 .exact zfs
 .exact zfr
 .exact zfq
 .exact zfp
 .exact zfo
 .exact zfn
 .exact zfm
 .exact zfl
def zbj:(List.range 5).all (λk=>(List.range 5).all λl=>zP (tabs++[(60,bQ 72 k),(61,bQ 76 l)]))=true:=U
def zbk{l:Nat}(a:k<5)(hl:l<5):zP (tabs++[(60,bQ 72 k),(61,bQ 76 l)])=true:=
 Ad.1 (Ad.1 zbj k (Lr.2 a)) l (Lr.2 hl)
def F9(x : J2)(hx : x.Ok) : ∃R : zy, (R.Ok /\ R.version <= 4) /\ ∀w, WO w -> x.u.In w -> x.d.In w -> Calls prog 24 x.args w λe w2 => Grown w w2 /\ iv w w2 R.l1 R.l2 R.up R.down e := by
  obtain⟨s, a, p, s1, s2, za, zp, hask⟩ := Rh hx.rs hx.ra hx.rp;let y : bM := ⟨x.user, x.perm, x.u, x.d, x.why, s, a, p⟩
  have hy : y.Ok := ⟨hx.user, hx.perm, hx.u, hx.d⟩
  obtain⟨n, H, pp, r, o1, o2, n1, n2, zpa, zpp, sm1, sm2, hfl⟩ := zai y hy;letI := unkF x.u x.d;let val := Uz x s a p n H pp r o1 o2
  have smg : ∀o : Option ByteArray, Qc o -> Small (o.getD ⟨#[0]⟩) := by
    intro o ho
    cases o with
    | none => exact IH
    | some t => exact ho t rfl
  have hv : iY val := by
    refine⟨λi h1 h2 => ?_, λq h1 h2 => ?_⟩
    · have : i = 132 \/ i = 133 \/ i = 134 \/ i = 135 \/ i = 136 \/ i = 137 \/ i = 138 \/ i = 139 := by omega
      rcases this with rfl|rfl|rfl|rfl|rfl|rfl|rfl|rfl <;> exact⟨0, by omega, rfl⟩
    · have : q = 142 \/ q = 143 := by omega
      rcases this with rfl|rfl
      · exact⟨_, rfl, smg o1 sm1⟩
      · exact⟨_, rfl, smg o2 sm2⟩
  have p70 : ∀val, J (B val) (.sym 70) = x.u.val := λval => opq C (show Unk.place 70 = (1000, 0, 0) from rfl) rfl;have p71 : ∀val, J (B val) (.sym 71) = x.d.val := λval => opq C (show Unk.place 71 = (1001, 0, 0) from rfl) rfl;have h111 : ∃n : Int, val 111 = .int .i64 n /\ -1 <= n /\ n <= 4 := ⟨(x.ver % 5 : Nat), rfl, by omega, by omega⟩
  have h113 : ∃n : Int, val 113 = .int .i64 n /\ 0 <= n /\ n <= 30001 := ⟨(x.day % 32 : Nat), rfl, by omega, by omega⟩
  have ten3 : x.ten % 3 = 0 \/ x.ten % 3 = 1 \/ x.ten % 3 = 2 := by omega
  have hoddm : yD x ∈ List.range 11 := Lr.2 (MP x)
  have fin : ∀ {t : List (Nat × X)} {args : List G} {val : Nat -> Value}, (K (B val) args).toArray = x.args -> (∀w, WO w -> x.u.In w -> x.d.In w -> ql prog t w) ->
      (∃R : zy, (R.Ok /\ R.version <= 4) /\ ∀w, ql prog t w -> Calls prog 24 (K (B val) args).toArray w λe w2 => Grown w w2 /\ iv w w2 R.l1 R.l2 R.up R.down e) ->
      ∃R : zy, (R.Ok /\ R.version <= 4) /\ ∀w, WO w -> x.u.In w -> x.d.In w -> Calls prog 24 x.args w λe w2 => Grown w w2 /\ iv w w2 R.l1 R.l2 R.up R.down e := by
    rintro t args val ea ht ⟨R, hR, h⟩
    exact⟨R, hR, λw h0 hu hd => by rw[<- ea]; exact h w (ht w h0 hu hd)⟩
  by_cases hgr : x.right = false /\ x.granted = true
  · obtain⟨hri, hgt⟩ := hgr
    by_cases h6 : yD x = 6
    ·
      obtain⟨H, pp, z1, z2⟩ : ∃(H pp : ByteArray), jM H /\ jM pp := ⟨H, pp, zpa, zpp⟩
      obtain⟨qa, qp, qd, y1, y2, hpm⟩ := lS (n := x.perm) (jw pm1 x.perm (Ue (zero_le _) (by have := hx.perm; omega)));let g : Nat -> Value := λid => if 117 <= id /\ id < 140 then mG y qa qp qd id else Uz x s a p n H pp r o1 o2 id
      have hv6 : iY g := by
        refine⟨λi h1 h2 => ?_, λq h1 h2 => ?_⟩
        · show ∃k : Nat, k <= 64 /\ (if 117 <= i /\ i < 140 then mG y qa qp qd i else Uz x s a p n H pp r o1 o2 i) = .int .i64 (k : Nat)
          rw[Y I];exact(Pz y qa qp qd).el i h1 h2
        · have : q = 142 \/ q = 143 := by omega
          rcases this with rfl|rfl
          · exact⟨_, rfl, smg o1 sm1⟩
          · exact⟨_, rfl, smg o2 sm2⟩
      have b : ∀id, ¬(117 <= id /\ id < 140) -> g id = Uz x s a p n H pp r o1 o2 id := λid h => O h;obtain⟨m1, m2⟩ := gi y hy;have hleaf : kS y ∈ fls x.u.bs.length := m2
      have hcl : zP (kS y).tabs = true := by
        have c : gL (kS y) = true := aF (p := gL) (l := fls x.u.bs.length) (zck m1) (kS y) hleaf;unfold gL at c;rw[zl, Le] at c;exact c.1
      have hk5 : x.u.bs.length = 0 \/ x.u.bs.length = 1 \/ x.u.bs.length = 2 \/ x.u.bs.length = 3 \/ x.u.bs.length = 4 := by have : x.u.bs.length < 5 := m1; omega
      have hsix : jb (x.ten % 3) x.u.bs.length = true := by
        exact zcW ten3 hk5
      have c : Wy (x.ten % 3) (kS y) = true := zcV hsix (kS y) hleaf;unfold Wy at c
      have j : zJ (iA (VM (x.ten % 3) 6 ++ (kS y).facts) (kS y).tabs) (B g) := by
        intro f j;have j : f ∈ VM (x.ten % 3) 6 ++ (kS y).facts := j;rcases LJ.1 j with j|j
        · rw[<- h6] at j
          exact oy x hx hask (λid h1 h2 => b id I) (b 144 I) (b 145 I) f j
        · refine ub y hy hpm (val := g) (λid h => ?_) f j
          show(if 117 <= id /\ id < 140 then mG y qa qp qd id else Uz x s a p n H pp r o1 o2 id) = _;rcases h with h|h
          · rw[O I]
            have : id = 107 \/ id = 108 := by omega
            rcases this with rfl|rfl <;> rfl
          · rw[Y h]
      have hwhy : WF (B g) (nb (Yi y)) /\ J (B g) (nb (Yi y)) = .bool x.why := by
        have hyw : y.why = x.why := rfl;unfold nb Yi;rw[hyw];cases x.why
        · exact⟨trivial, rfl⟩
        · rw[Y rfl]
          by_cases h : y.user % 7 = 1 \/ y.user % 7 = 2 \/ y.user % 7 = 3
          · rw[Y h, zo, zA, O (by rw[Ll]; omega)]; exact⟨trivial, rfl⟩
          · rw[O h]; exact⟨trivial, rfl⟩
      refine fin (val := g) (oz x (λid h => b id I) (p70 g) (p71 g) (by rw[<- h6]; exact fj x rfl) (by rw[hgt]; rfl) (by rw[hri]; rfl) hwhy.2) (λw _ hu hd => C5 y hy hu hd) (oL hv6 ⟨(x.num : Nat), b 144 I, by have := hx.num; omega, by have := hx.num; omega⟩ ⟨(x.num + 1 : Nat), b 145 I, by have := hx.num; omega, by have := hx.num; omega⟩ ⟨_, b 111 I, by omega, by omega⟩ ⟨s, b 114 I, s1, s2⟩ ⟨a, b 115 I, za⟩ ⟨p, b 116 I, zp⟩ ⟨_, b 113 I, by omega, by omega⟩
        ⟨(x.user % 7 : Nat), rfl, by omega, by omega⟩ ⟨qa, rfl, y1⟩ ⟨qp, rfl, y2⟩ ⟨qd, rfl⟩ j hcl c (NN hwhy.1))
    ·
      let b0 := bQ 72 x.u.bs.length
      let Q := bQ 76 x.d.bs.length
      let T := tabs ++ [(60, b0), (61, Q)]
      have hT : ∀w, WO w -> x.u.In w -> x.d.In w -> ql prog T w := by
        intro w h0 hu hd;refine⟨λid => some (Unk.place id), λ_ _ => rfl, λp hp => ?_⟩;rcases LJ.1 hp with hp|hp
        · exact rE h0 p hp
        · simp only[Lf, Lq, Lo] at hp
          rcases hp with rfl|rfl
          · exact ru hx.u hu h0 C (λ_ _ => rfl) (Mq x.u x.d)
          · exact ru hx.d hd h0 C (λ_ _ => rfl) (Mr x.u x.d)
      have hT2 : ∀w, ql prog T w -> x.u.In w /\ x.d.In w := by
        intro w h;obtain⟨β, e1, e2⟩ := h;exact⟨CX hx.u C e1 (Mq x.u x.d) (e2 (60, b0) (Ay _ LG)), CX hx.d C e1 (Mr x.u x.d) (e2 (61, Q) (Ay _ (LP _ LG)))⟩
      have hcl : zP T = true := by
        have hu5 : x.u.bs.length < 5 := by have := hx.u.len; omega
        have hd5 : x.d.bs.length < 5 := by have := hx.d.len; omega
        exact zbk hu5 hd5
      let u1 := if o1.isSome then 1 else 0
      let d1 := if o2.isSome then 1 else 0
      let dp := if yD x = 9 then(if r then 1 else 0) else 2
      have c : YZ b0 Q (x.ten % 3) (yD x) u1 d1 dp = true := by
        have h1 : dL b0 Q (x.ten % 3) = true := by
          rcases ten3 with h|h|h <;> rw[h]
          · exact congrFun (congrFun ze6 b0) Q
          · exact congrFun (congrFun ze5 b0) Q
          · exact congrFun (congrFun ze4 b0) Q
        have h2 : xG b0 Q (x.ten % 3) (yD x) = true := jw h1 _ hoddm;unfold xG at h2;rw[zo, zA, O (by rw[Ll]; exact h6)] at h2;have hu1 : u1 ∈ [0, 1] := by show(if o1.isSome then 1 else 0) ∈ [0, 1]; split <;> simp
        have hd1 : d1 ∈ [0, 1] := by show(if o2.isSome then 1 else 0) ∈ [0, 1]; split <;> simp
        have h3 := jw (jw h2 u1 hu1) d1 hd1;rw[zo, zA] at h3;show YZ b0 Q (x.ten % 3) (yD x) u1 d1 (if yD x = 9 then(if r then 1 else 0) else 2) = true;by_cases h9 : yD x = 9
        · rw[Y (by rw[Ll]; exact h9), zl, Le] at h3
          rw[Y h9];cases r
          · exact h3.1
          · exact h3.2
        · rw[O (by rw[Ll]; exact h9)] at h3
          rw[O h9];exact h3
      unfold YZ at c
      have z : WF (B val) (cK dp) /\ Yt 300 (cK dp) = true /\ J (B val) (cK dp) = .bool r := by
        show WF (B val) (cK (if yD x = 9 then(if r then 1 else 0) else 2)) /\ Yt 300 (cK (if yD x = 9 then(if r then 1 else 0) else 2)) = true /\ J (B val) (cK (if yD x = 9 then(if r then 1 else 0) else 2)) = .bool r;by_cases h9 : yD x = 9
        · rw[Y h9]
          cases r <;> exact⟨trivial, rfl, rfl⟩
        · rw[O h9]
          exact⟨zE C, rfl, zF C C (show val 121 = .bool r from rfl) rfl⟩
      have hchain : zu prog T (B val) (Q9 u1 d1 dp) := by
        have ea : (K (B val) [.agg [.sym 107, .sym 108, .sym 70, .sym 71, .sym 141], .agg Qn, .agg [.sym 114, .sym 115, .sym 116]]).toArray = y.args := by
          simp only[K];rw[J, J, J, pY];simp only[K]
          rw[p70 val, p71 val, zF C C (show val 107 = .int .u8 (x.user : Nat) from rfl) rfl, zF C C (show val 108 = .int .u8 (x.perm : Nat) from rfl) rfl,
            zF C C (show val 141 = .bool x.why from rfl) rfl, zF C C (show val 114 = .int .i64 s from rfl) rfl, zF C C (show val 115 = .string a from rfl) rfl, zF C C (show val 116 = .string p from rfl) rfl]
          rfl
        have hq : ∀(o : Option ByteArray) (q : Nat), 100 <= q -> q < 300 -> val q = .string (o.getD ⟨#[0]⟩) -> RQ (B val) q o := by
          intro o q q1 q2 e
          cases o with
          | none => trivial
          | some t => exact⟨zE q2, zF q1 q2 e rfl⟩
        have := Nc (P := prog) (tabs := T) (β := B val) (f := 64) (args := [.agg [.sym 107, .sym 108, .sym 70, .sym 71, .sym 141], .agg Qn, .agg [.sym 114, .sym 115, .sym 116]]) (N := 300) (q1 := 142) (q2 := 143) (t := 3) (o1 := o1) (o2 := o2)
          (l1 := [.sym 118]) (l2 := [.sym 119, .sym 120, cK dp]) ⟨⟨zE C, zE C, zE C, zE C, zE C, trivial⟩, Ia _, ⟨zE C, zE C, zE C, trivial⟩, trivial⟩ C C
          (hq o1 142 C C rfl) (hq o2 143 C C rfl) (λv hv => by rw[Lu] at hv; rw[hv]; rfl) (λv hv => by
            simp only[Lf, Lq, Lo] at hv;rcases hv with rfl|rfl|rfl
            · rfl
            · rfl
            · exact z.2.1) ⟨zE C, trivial⟩ ⟨zE C, zE C, z.1, trivial⟩ (λw hw => by
            rw[ea];obtain⟨hu, hd⟩ := hT2 w hw;refine(hfl w hu hd).mono λe w2 hx => ⟨hx.1, ?_⟩
            obtain⟨_, v1, v2, Q, b2, g1, g2, g3, g4⟩ := hx;refine⟨v1, v2, Q, b2, g1, ?_, g3, g4⟩;rw[g2];simp only[K]
            rw[z.2.2, zF C C (show val 118 = .int .i64 n from rfl) rfl, zF C C (show val 119 = .string H from rfl) rfl, zF C C (show val 120 = .string pp from rfl) rfl])
        cases o1 <;> cases o2 <;> exact this
      have j : zJ (EV b0 Q (Q9 u1 d1 dp :: VM (x.ten % 3) (yD x))) (B val) := by
        intro f j;have j : f ∈ Q9 u1 d1 dp :: VM (x.ten % 3) (yD x) := j;rcases Lf.1 j with rfl|j
        · exact hchain
        · exact oy x hx hask (val := val) (λid h1 h2 => rfl) rfl rfl f j
      exact fin (val := val) (oz x (λid h => rfl) (p70 val) (p71 val) (fj x rfl) (by rw[hgt]; rfl) (by rw[hri]; rfl) (zF C C (show val 141 = .bool x.why from rfl) rfl)) hT
        (oL hv ⟨(x.num : Nat), rfl, by have := hx.num; omega, by have := hx.num; omega⟩ ⟨(x.num + 1 : Nat), rfl, by have := hx.num; omega, by have := hx.num; omega⟩ h111 ⟨s, rfl, s1, s2⟩ ⟨a, rfl, za⟩ ⟨p, rfl, zp⟩ h113 ⟨n, rfl, n1, by omega⟩ ⟨H, rfl, zpa⟩ ⟨pp, rfl, zpp⟩ ⟨r, rfl⟩ j hcl c (NN (zE C)))
  ·
    let m := if x.right then 0 else 1
    have c : Wz (x.ten % 3) (yD x) m = true := by
      have h1 : dM (x.ten % 3) = true := by
        rcases ten3 with h|h|h <;> rw[h]
        · exact ze9
        · exact ze8
        · exact ze7
      have h2 := jw h1 _ hoddm;rw[zl, Le] at h2;show Wz (x.ten % 3) (yD x) (if x.right then 0 else 1) = true;cases x.right
      · exact h2.2
      · exact h2.1
    unfold Wz at c;have j : zJ (EN (VM (x.ten % 3) (yD x))) (B val) := λf j => oy x hx hask (val := val) (λid h1 h2 => rfl) rfl rfl f j
    have hgv : J (B val) (Wv m) = .bool x.granted /\ J (B val) (eK m) = .bool x.right := by
      show J (B val) (Wv (if x.right then 0 else 1)) = .bool x.granted /\ J (B val) (eK (if x.right then 0 else 1)) = .bool x.right;cases hri : x.right
      · have hg0 : x.granted = false := by
          cases hg : x.granted
          · rfl
          · exact Ld ⟨hri, hg⟩ hgr
        rw[hg0];exact⟨rfl, rfl⟩
      · exact⟨zF C C (show val 140 = .bool x.granted from rfl) rfl, rfl⟩
    exact fin (val := val) (oz x (λid h => rfl) (p70 val) (p71 val) (fj x rfl) hgv.1 hgv.2 (zF C C (show val 141 = .bool x.why from rfl) rfl)) (λw _ _ _ => ko)
      (oL hv ⟨(x.num : Nat), rfl, by have := hx.num; omega, by have := hx.num; omega⟩ ⟨(x.num + 1 : Nat), rfl, by have := hx.num; omega, by have := hx.num; omega⟩ h111 ⟨s, rfl, s1, s2⟩ ⟨a, rfl, za⟩ ⟨p, rfl, zp⟩ h113 ⟨n, rfl, n1, by omega⟩ ⟨H, rfl, zpa⟩ ⟨pp, rfl, zpp⟩ ⟨r, rfl⟩ j rfl c (NN (zE C)))
section
open Go.AuditPlain(put)
def cnt(o:En):Nat:=match o with|none=>0|some _=>1
structure Slot(w:Ea)(v:Ei)(o:En)(x:Ej)(s:Ee):Prop where
 none_:o=none->v = .slice none 0 0
 some_:∀t,o=some t->s=t/\∃arr fz,zbT w t v x arr fz
def WY{o:En}(h:AtS w v o):∃x s,Slot w v o x s:=by
 cases o with
 | none=>exact⟨(0,0,0),.empty,λ_=>h,λt a=>by cases a⟩
 | some t=>
  obtain⟨x,arr,fz,hx⟩:=h;exact⟨x,t,(λa=>by cases a),λu b=>by cases b;exact⟨rfl,arr,fz,hx⟩⟩
def YH[Unk]{o:En}{s:Ee}(h:Slot w v o x s){β:Inj}(a:∀g,g<100->β g=some (Unk.place g)){b q:Nat}(hq:q<100)(d:Unk.place b=x)(c:Unk.place q=Zs s) :
  ∀p∈iI b q (cnt o),zO prog β p.2 (Unk.place p.1) w:=by
 intro p hp
 cases o with
 | none=>cases hp
 | some t=>
  obtain⟨rfl,arr,fz,hx⟩:=h.some_ t rfl;have hp:p∈[(b,X.ints 3 (.sym q))]:=hp;rw[Lu]at hp;subst hp;rw[d];refine⟨arr,fz,hx.row,hx.text (γ:=β) (by show(β q).isSome=true;rw[a q hq];rfl) ?_⟩;show qn ((β q).getD (0,0,0))=_;rw[a q hq,c,LW,kW]
def B8[Unk]{w':Ea}{o:En}{s:Ee}(h:Slot w v o x s){d:Inj}(l:∀g,g<100->d g=some (Unk.place g)){b q:Nat}(hq:q<100)(k:Unk.place b=x)(j:Unk.place q=Zs s)
  (hr:∀p∈iI b q (cnt o),zO prog d p.2 (Unk.place p.1) w'):AtS w' v o:=by
 cases o with
 | none=>exact h.none_ rfl
 | some t=>
  obtain⟨rfl,arr,fz,hx⟩:=h.some_ t rfl;obtain⟨a,f,g1,e⟩:=hr (b,.ints 3 (.sym q)) LG;rw[k]at g1 e
  have m:J d (.sym q) = .string s:=by
   show qn ((d q).getD (0,0,0))=_;rw[l q hq,j,LW,kW]
  exact⟨x,a,f,hx.is,g1,hx.cap,e.size,λi c hc=>e.cell i c (by rw[m];exact hc),e.thaw⟩
end
noncomputable section
def ZE{l:Eb}(h:∀b∈l,b<256):zG (str l)=l:=@str_inj unk0 _ _ (@ZF unk0 (str l)) h (@Qs unk0 (str l))
def isN(s:Ee):Bool:=yd (zG s) Xp
def isP(s:Ee):Bool:=yd (zG s) Xm
def Xc{f:Nat}{ok:List (List Nat)}(h:uu f ok=true){s:Ee}(hs:jM s)(w:Ea):Calls prog f #[.string s] w λe w2=>Grown w w2/\e = .returned (.bool (yd (zG s) ok)):=by
 letI:=unk0;obtain⟨l,hl,rfl⟩:=hs;have hb:=(qV l hl).2;have a:zbn f l (yd l ok)=true:=aF (p:=λl=>zbn f l (yd l ok)) (l:=words) h l hl;rw[ZE hb];unfold zbn at a;have:=kv (E:=EN []) (UK [] []) C (Zx (val:=λ_=>.int .u8 0)) (λf b=>by cases b) rfl a ⟨hb,trivial⟩ (w:=w) ko;refine Calls.mono (show Calls prog f #[.string (str l)] w _ from this) λe w2 hx=>⟨hx.1,?_⟩
 rw[hx.2.1];cases yd l ok<;>rfl
def aU{s:Ee}(hs:jM s)(w:Ea):Calls prog 76 #[.string s] w λe w2=>Grown w w2/\e = .returned (.bool (isN s)):=by
 unfold isN;exact Xc zjZ hs w
def M6{s:Ee}(hs:jM s)(w:Ea):Calls prog 68 #[.string s] w λe w2=>Grown w w2/\e = .returned (.bool (isN s)):=by
 unfold isN;exact Xc zj1 hs w
def nS{s:Ee}(hs:jM s)(w:Ea):Calls prog 135 #[.string s] w λe w2=>Grown w w2/\e = .returned (.bool (isP s)):=by
 unfold isP;exact Xc zib hs w
def zdv{s:Ee}(hs:jM s)(w:Ea):Calls prog 69 #[.string s] w λe w2=>Grown w w2/\e = .returned (.bool (isP s)):=by
 unfold isP;exact Xc zj0 hs w
end
noncomputable section
def qj(o:En):Nat:=(zI o).length
def zy.els(R:zy):List Nat:=zI R.up++zI R.down
def zy.zero(R:zy):Prop:=R.user=0/\qj R.up=0/\qj R.down=0/\R.does.size=0/\R.at_.size=0/\R.deep=false
open Classical in
def zy.ZM(R:zy):Nat:=
 if R.granted=false/\¬R.zero then 6 else if 63<qj R.up\/63<qj R.down then 3 else if 256<R.user\/(∃k∈R.els,63<k) then 2 else if 12<R.does.size then 3 else 0
def zy.err(R:zy):Nat:=if isN R.tenant=false then 9 else if R.session<1 then 1 else if isN R.action=false then 9 else if isP R.path=false then 6 else R.ZM
def yR{o:En}(h:Qc o):(qj o<=5/\∀k∈zI o,k<=64)\/(qj o=64/\∀k∈zI o,k=0):=by
 cases o with
 | none=>exact .inl ⟨zero_le _,λk a=>by cases a⟩
 | some s=>
  have hl:qj (some s)=s.size:=zR s;rw[hl];obtain⟨f,h1⟩:=h s rfl;rcases h1 with⟨d,hb⟩|rfl
  .refine .inl ⟨d,λk a=>?_⟩;obtain⟨i,hi,e⟩:=List.getElem_of_mem a;have b:(zG s)[i]?=some k:=by rw[<- e];exact Ly hi
   rw[JC]at b;obtain⟨c,hc,rfl⟩:=LU.1 b;exact hb i c hc
  .refine .inr ⟨rfl,λk a=>?_⟩
   have:zG KK=List.replicate 64 0:=by
    unfold zG KK;rw[jI];simp
   rw[show zI (some KK)=List.replicate 64 0 from this]at a;exact(List.mem_replicate.1 a).2
def AtS.slice{o:En}(h:AtS w v o):∃p c,v = .slice p (qj o) c:=by
 cases o with
 | none=>exact⟨none,0,h⟩
 | some s=>
  obtain⟨x,arr,fz,k⟩:=h;exact⟨_,_,by rw[k.is,show qj (some s)=s.size from zR s]⟩
@[reducible] def unkO (p1:Ed) (n1 c1:Nat) (p2:Ed) (n2 c2:Nat):Unk where
 val i:=if i=1000 then .slice p1 n1 c1 else if i=1001 then .slice p2 n2 c2 else .int .u8 0
 plain i:=by
  split
  .rfl
  .split<;>rfl
 place g:=if g=70 then(1000,0,0) else if g=71 then(1001,0,0) else(g,0,0)
 glob g hg:=by rw[O I,O I]
def zy.at(r:zy)(i:Nat):Value:=
 match i with
 | 0=>.int .i64 r.number|1=>.int .i64 r.version|2=>.string r.tenant|3=>.int .i64 r.session|4=>.string r.action|5=>.string r.path|6=>.int .i64 r.day|7=>.bool r.granted|8=>.int .i64 r.user
 | 9=>.string r.does|10=>.string r.at_|_=>.bool r.deep
def zy.kept(r:zy)(i:Nat):yc (r.at i)=true:=by
 unfold zy.at;split<;>rfl
section
variable[Unk]{P:Ef}{tabs:List (Nat×X)}{β:Inj}
def Z6(b:Bool):qx b = .bool b:=by cases b<;>rfl
def yB{a:G}{n:Int}(ha:WF β a)(e:J β a = .int .i64 n)(hb:b=decide ((c:Int)<n)):zu P tabs β (.bin .gtr a (qc c) (qx b)):=by
 rw[Z6];refine j8 ha trivial trivial e (show J β (qc c) = .int .i64 ((c:Nat):Int) from rfl) (v:=.bool b) ?_ rfl;show some (j7 (ilt (c:Nat) n))=_;rw[Zi,hb,yx]
def Z2{a:G}{n:Int}(ha:WF β a)(e:J β a = .int .i64 n)(hb:b=decide (n<(c:Int))):zu P tabs β (.bin .lss a (qc c) (qx b)):=by
 rw[Z6];refine j8 ha trivial trivial e (show J β (qc c) = .int .i64 ((c:Nat):Int) from rfl) (v:=.bool b) ?_ rfl;show some (j7 (ilt n (c:Nat)))=_;rw[Zi,hb,yx]
def Zv{a:G}{s:Ee}(ha:WF β a)(e:J β a = .string s)(hc:∀w,Calls P f #[.string s] w λe w2=>Grown w w2/\e = .returned (.bool b)):zu P tabs β (.call f [a] (qx b)):=by
 rw[Z6];refine⟨⟨ha,trivial⟩,trivial,λw _=>?_⟩;have c:(K β [a]).toArray = #[.string s]:=by simp only[K,e]
 rw[c];exact(hc w).mono λe w2 hx=>⟨hx.2,hx.1⟩
end
namespace CK
def Zq(R:zy)(n1 n2:Nat)(id:Nat):Value:=if id<112 then R.at (id-100) else if id=120 then .int .i64 (R.does.size:Nat) else if id=121 then .int .i64 (R.at_.size:Nat) else if id=122 then .int .i64 (n1:Nat) else if id=123 then .int .i64 (n2:Nat) else .int .i64 (n1+n2:Nat)
def Qq:∀(n:Nat) (l:List Fact) (f:Fact),f∈VD n l->∃i,i<n/\l[i]?=some f
 | 0,_,_,h=>by cases h
 | n+1,[],f,h=>by
  have h:f∈(lC ([]:List Fact) [] λa m=>a::VD n m):=h
  cases h
 | n+1,a::l,f,h=>by
  have h:f∈a::VD n l:=h;rcases Lf.1 h with rfl|h
  .exact⟨0,I,rfl⟩
  .obtain⟨i,hi,e⟩:=Qq n l f h;exact⟨i+1,I,e⟩
end CK
def xl(facts:List Fact)(t:List (Nat×X))[Unk]:Fit (J4 facts t):=QA Cy mixed (by
 intro p hp;unfold IF at hp;iterate 13 (rcases Lf.1 hp with rfl|hp;· trivial)
 exact B0 p hp)
namespace CK
def jH(s:Ee):s.size=0↔s=str []:=by
 constructor
 .intro h;have:zG s=[]:=Ax (by rw[zR];exact h);rw[<- @Qs unk0 s,this]
 .rintro rfl
  rfl
section
variable{R:zy}(hR:R.Ok){p1 p2:Ed}{c1 c2:Nat}
include hR
structure uY(R:zy)(c:Nat):Prop where
 lt:c<12
 t:isN R.tenant=Nat.blt 0 c
 s:1<=c->decide (R.session<1)=Nat.beq c 1
 a:2<=c->isN R.action=Nat.blt 2 c
 p:3<=c->isP R.path=Nat.blt 3 c
 g:4<=c->R.granted=Xh c
 z0:4<=c->c<9->decide (R.user=0)=Nat.blt 4 c
 z1:5<=c->c<9->decide (0<qj R.up+qj R.down)=Nat.beq c 5
 z2:6<=c->c<9->decide (R.does.size=0)=Nat.blt 6 c
 z3:7<=c->c<9->decide (R.at_.size=0)=Nat.blt 7 c
 z4:8<=c->c<9->R.deep=true
 l1:9<=c->decide (63<qj R.up)=Nat.beq c 9
 l2:10<=c->decide (63<qj R.down)=Nat.beq c 10
 u:11<=c->256<R.user
theorem VT(hs:uY R c)(w:Ea):Calls prog 30 #[.agg (R.l1++.slice p1 (qj R.up) c1::.slice p2 (qj R.down) c2::R.l2).toArray] w λe w2=>Grown w w2/\e = .returned (.int .i64 (eM c:Nat)):=by
 letI:=unkO p1 (qj R.up) c1 p2 (qj R.down) c2;let val:=Zq R (qj R.up) (qj R.down);have x:JR c=true:=jw ck0 c (Lr.2 hs.lt);unfold JR at x;have v:∀i,i<12->J (B val) (.sym (100+i))=R.at i:=λi hi=>zF I I (by show Zq R _ _ (100+i)=_;unfold Zq;rw[Y I,LA]) (R.kept i);have w':∀i,i<300->WF (B val) (.sym i):=λi hi=>zE hi;have Q:J (B val) (.sym 70) = .slice p1 (qj R.up) c1:=by rw[Zr C];rfl
 have H:J (B val) (.sym 71) = .slice p2 (qj R.down) c2:=by rw[Zr C];rfl
 have m:J (B val) (.sym 122) = .int .i64 (qj R.up:Nat):=zF C C (show Zq R _ _ 122=_ from rfl) rfl;have l:J (B val) (.sym 123) = .int .i64 (qj R.down:Nat):=zF C C (show Zq R _ _ 123=_ from rfl) rfl;have y:J (B val) (.sym 124) = .int .i64 ((qj R.up:Nat)+(qj R.down:Nat):Int):=zF C C (show Zq R _ _ 124=_ from rfl) rfl;have hu:=yR hR.up;have hd:=yR hR.down
 have n:∀i f,(gW c)[i]?=some f->i<=c->zu prog [] (B val) f:=by
  intro i f hi hc
  match i,hi,hc with
  | 0,hi,hc=>cases hi;exact Zv (w' 102 C) (v 2 C) (λw=>hs.t ▸ aU hR.tenant w)
  | 1,hi,hc=>cases hi;exact Z2 (w' 103 C) (v 3 C) ((hs.s hc).symm.trans rfl)
  | 2,hi,hc=>cases hi;exact Zv (w' 104 C) (v 4 C) (λw=>hs.a hc ▸ aU hR.action w)
  | 3,hi,hc=>cases hi;exact Zv (w' 105 C) (v 5 C) (λw=>hs.p hc ▸ nS hR.path w)
  | i+4,hi,hc=>cases hi
 have T:∀tabs,zu prog tabs (B val) (.bin .add (.sym 122) (.sym 123) (.sym 124)):=by
  intro tabs;refine j8 (k:=.i64) (j:=.i64) (w' 122 C) (w' 123 C) (w' 124 C) m l (v:=mkInt .i64 (Q1 .i64 (Gd (qj R.up:Nat) (qj R.down:Nat)))) rfl ?_;rw[kM,yn,dE,rl I I,y];rfl
 have hzero:∀i f,(re c)[i]?=some f->i<QQ c->4<=c->c<9->zu prog [] (B val) f:=by
  intro i f hi hn h4 r
  have hz:c=4/\QQ c=1\/c=5/\QQ c=5\/c=6/\QQ c=6\/c=7/\QQ c=7\/c=8/\QQ c=8:=by
   have:c=4\/c=5\/c=6\/c=7\/c=8:=by omega
   rcases this with rfl|rfl|rfl|rfl|rfl
   .exact .inl ⟨rfl,rfl⟩
   .exact .inr (.inl ⟨rfl,rfl⟩)
   .exact .inr (.inr (.inl ⟨rfl,rfl⟩))
   .exact .inr (.inr (.inr (.inl ⟨rfl,rfl⟩)))
   .exact .inr (.inr (.inr (.inr ⟨rfl,rfl⟩)))
  have z7:7<QQ c->Nat.blt 8 c=(R.deep==false):=λh=>by
   have:c=8:=by omega
   subst this;rw[hs.z4 C C];rfl
  match i,hi,hn with
  | 0,hi,hn=>cases hi;exact JQ (w' 108 C) trivial (v 8 C) (show J (B val) (qc 0) = .int .i64 ((0:Nat):Int) from rfl) (by rw[<- hs.z0 h4 r];by_cases h:R.user=0<;>simp[h])
  | 1,hi,hn=>cases hi;exact Q8 (w' 70 C) (w' 122 C) Q m
  | 2,hi,hn=>cases hi;exact Q8 (w' 71 C) (w' 123 C) H l
  | 3,hi,hn=>cases hi;exact T _
  | 4,hi,hn=>cases hi;exact yB (w' 124 C) y ((hs.z1 I r).symm.trans (decide_eq_decide.2 I))
  | 5,hi,hn=>cases hi;exact XS (w' 109 C) (by intro b hb;cases hb) (v 9 C) (show J (B val) (.str []) = .string (str []) from rfl) ((hs.z2 I r).symm.trans (decide_eq_decide.2 (jH _)))
  | 6,hi,hn=>cases hi;exact XS (w' 110 C) (by intro b hb;cases hb) (v 10 C) (show J (B val) (.str []) = .string (str []) from rfl) ((hs.z3 I r).symm.trans (decide_eq_decide.2 (jH _)))
  | 7,hi,hn=>cases hi;exact zcm (w' 111 C) trivial (v 11 C) (show J (B val) (.bool false) = .bool false from rfl) (z7 hn)
  | i+8,hi,hn=>cases hi
 have z:∀i f,(ti c)[i]?=some f->i<VI c->9<=c->zu prog [] (B val) f:=by
  intro i f hi hn r;have hc:=hs.lt
  have hl:c=9/\VI c=3\/c=10/\VI c=4\/c=11/\VI c=6:=by
   have:c=9\/c=10\/c=11:=by omega
   rcases this with rfl|rfl|rfl
   .exact .inl ⟨rfl,rfl⟩
   .exact .inr (.inl ⟨rfl,rfl⟩)
   .exact .inr (.inr ⟨rfl,rfl⟩)
  match i,hi,hn with
  | 0,hi,hn=>cases hi;exact Q8 (w' 70 C) (w' 122 C) Q m
  | 1,hi,hn=>cases hi;exact Q8 (w' 71 C) (w' 123 C) H l
  | 2,hi,hn=>cases hi;exact yB (w' 122 C) m ((hs.l1 r).symm.trans (decide_eq_decide.2 I))
  | 3,hi,hn=>cases hi;exact yB (w' 123 C) l ((hs.l2 I).symm.trans (decide_eq_decide.2 I))
  | 4,hi,hn=>cases hi;exact Z2 (b:=false) (w' 108 C) (v 8 C) (by have:=hR.user;symm;rw[LH];show ¬R.user<((0:Nat):Int);omega)
  | 5,hi,hn=>cases hi;exact yB (b:=true) (w' 108 C) (v 8 C) (by have:=hs.u I;symm;rw[Lk];show((256:Nat):Int)<R.user;omega)
  | i+6,hi,hn=>cases hi
 have d:zJ (J4 (JA c) []) (B val):=by
  intro f d;have d:f∈JA c:=d;unfold JA at d;rw[zo,zW]at d;by_cases h4:c<4
  .rw[Y (by simpa using h4)]at d;obtain⟨i,hi,e⟩:=Qq _ _ _ d;exact n i f e I
  .rw[O (by simpa using h4)]at d;rcases zY d with d|d
   .obtain⟨i,hi⟩:=List.getElem?_of_mem d;have:i<4:=(LL.1 hi).1;exact n i f hi I
   .rw[zo,zW]at d;by_cases r:c<9
    .rw[Y (by simpa using r)]at d;obtain⟨i,hi,e⟩:=Qq _ _ _ d;exact hzero i f e hi I r
    .rw[O (by simpa using r)]at d;obtain⟨i,hi,e⟩:=Qq _ _ _ d;exact z i f e hi I
 have:=kv (E:=J4 (JA c) []) (xl _ _) C (Zx (val:=val)) d rfl x (by
  refine⟨⟨w' 100 C,w' 101 C,w' 102 C,w' 103 C,w' 104 C,w' 105 C,w' 106 C,?_,w' 108 C,w' 70 C,w' 71 C,w' 109 C,w' 110 C,w' 111 C,trivial⟩,trivial⟩;rw[zo,Z6];split
  .exact w' 107 C
  .trivial) (w:=w) ko
 have hg:J (B val) (ifB (Nat.blt c 4) (.sym 107) (qx (Xh c))) = .bool R.granted:=by
  rw[zo,Z6,zW];by_cases h:c<4
  .rw[Y (by simpa using h)];exact v 7 C
  .rw[O (by simpa using h),hs.g I];rfl
 have ea:K (B val) [recC (ifB (Nat.blt c 4) (.sym 107) (qx (Xh c))) (.sym 70) (.sym 71)]=[.agg (R.l1++.slice p1 (qj R.up) c1::.slice p2 (qj R.down) c2::R.l2).toArray]:=by
  unfold recC;rw[K,K,Z4];simp only[K];rw[hg,Q,H,v 0 C,v 1 C,v 2 C,v 3 C,v 4 C,v 5 C,v 6 C,v 8 C,v 9 C,v 10 C,v 11 C];rfl
 rw[show zQ (YI val)=B val from rfl,ea]at this;exact this.mono λe w2 hx=>⟨hx.1,hx.2.1⟩
end
end CK
end
@[reducible] def unkE (x1 x2:Ej) (n1 n2:Nat) (l1 l2:Eb):Unk where
 val _:=.int .u8 0
 plain _:=rfl
 place g:=if g=60 then(x1.1,x1.2.1,x1.2.2-n1) else if g=61 then(x2.1,x2.2.1,x2.2.2-n2) else if 72<=g/\g<77 then ZI l1 (g-72) else if 77<=g/\g<82 then ZI l2 (g-77) else(g,0,0)
 glob g hg:=by rw[O I,O I,O I,O I]
def YX(p:Em):∀n,∃j,j<=n/\(∀i,i<j->¬p i)/\(j<n->p j)
 | 0=>⟨0,Lh _,λ_ h=>(not_lt_zero _ h).elim,λh=>(Nat.lt_irrefl _ h).elim⟩
 | n+1=>by
  obtain⟨j,h1,h2,h3⟩:=YX p n;by_cases a:j<n
  .exact⟨j,I,h2,λ_=>h3 a⟩
  .have:j=n:=by omega
   subst this;by_cases hp:p j
   .exact⟨j,I,h2,λ_=>hp⟩
   .exact⟨j+1,Lh _,λi hi=>by rcases LD i j with h|h;exact h2 i h;rw[show i=j by omega];exact hp,λh=>Ld h I⟩
namespace CK
def fA{l:Nat}(a:k<=5)(hl:l<=5):zD k l=true:=by
 have h1:k=0\/k=1\/k=2\/k=3\/k=4\/k=5:=by omega
 have h2:l=0\/l=1\/l=2\/l=3\/l=4\/l=5:=by omega
 rcases h1 with rfl|rfl|rfl|rfl|rfl|rfl<;>rcases h2 with rfl|rfl|rfl|rfl|rfl|rfl
 .exact zht
 .exact zhs
 .exact zhr
 .exact zhq
 .exact zhp
 .exact zho
 .exact zhn
 .exact zhm
 .exact zhl
 .exact zhk
 .exact zhj
 .exact zhi
 .exact zhh
 .exact zhg
 .exact zhf
 .exact zhe
 .exact zhd
 .exact zhc
 .exact zhb
 .exact zha
 .exact zg9
 .exact zg8
 .exact zg7
 .exact zg6
 .exact zg5
 .exact zg4
 .exact zg3
 .exact zg2
 .exact zg1
 .exact zg0
 .exact zgZ
 .exact zgY
 .exact zgX
 .exact zgW
 .exact zgV
 .exact zgU
structure kT(w:Ea)(v:Ei)(l:Eb)(x:Ej):Prop where
 none_:l=[]->v = .slice none 0 0
 some_:l≠[]->v = .slice (some ⟨x.1,x.2.1,none⟩) l.length x.2.2/\l.length<=x.2.2/\∃arr fz,w.heap[x.1]?=some (.cells arr 3 fz)/\x.2.1+x.2.2<=arr.size/\(∀i,i<arr.size->¬(fz.1<=i/\i<fz.2))/\∀i (h:i<l.length),arr[x.2.1+i]?=some (.int .i64 (l[i]:Nat))
def kP{o:En}(hs:Qc o)(h:AtS w v o):∃x,kT w v (zI o) x:=by
 cases o with
 | none=>exact⟨(0,0,0),λ_=>h,λhn=>Ld rfl hn⟩
 | some s=>
  obtain⟨x,arr,fz,k⟩:=h;have b:=(hs s rfl).1;refine⟨x,λhn=>?_,λ_=>⟨?_,?_,arr,fz,k.row,k.size,k.thaw,λi hi=>?_⟩⟩
  .have:=zR s;rw[show zG s=[] from hn]at this;simp at this;omega
  .rw[k.is,show(zI (some s)).length=s.size from zR s]
  .rw[show(zI (some s)).length=s.size from zR s];exact k.cap
  .have a:(zG s)[i]?=some ((zI (some s))[i]):=Ly hi;rw[JC]at a;obtain⟨c,hc,e⟩:=LU.1 a;rw[<- e];exact k.cell i c hc
section
variable{R:zy}(hR:R.Ok)
include hR
theorem aY(hn : isN R.tenant = true)(hs : ¬R.session < 1)(ha : isN R.action = true)(hp : isP R.path = true)(hg : R.granted = true)(hu : ¬256 < R.user)(h1 : qj R.up <= 5)(h2 : qj R.down <= 5){v1 v2 : Value}{x1 x2 : Nat × Nat × Nat}{w : World}
    (k1 : kT w v1 (zI R.up) x1) (k2 : kT w v2 (zI R.down) x2) : Calls prog 30 #[.agg (R.l1 ++ v1 :: v2 :: R.l2).toArray] w λe w2 => Grown w w2 /\ e = .returned (.int .i64 (R.ZM : Nat)) := by
  let l1 := zI R.up
  let l2 := zI R.down
  let k := l1.length
  let l := l2.length
  have hk : k <= 5 := h1;have hl : l <= 5 := h2;letI := unkE x1 x2 k l l1 l2;let val := Zq R k l;obtain⟨j, j1, j2, j3⟩ := YX (λi => 63 < (R.els[i]?).getD 0) (k + l);have hlen : R.els.length = k + l := Lm;let d : Bool := decide (12 < R.does.size) && decide (j = k + l)
  have r : QN k l j d = true := by
    have := fA hk hl;unfold zD at this;rw[zl, Le] at this;by_cases hd : d = true
    · have : j = k + l := by
        have h := hd;rw[Le] at h;exact of_decide_eq_true h.2
      rw[hd, this];exact ‹_ /\ _›.2
    · rw[show d = false by simpa using hd]
      exact jw this.1 j (Lr.2 (by show j < k + l + 1; omega))
  unfold QN at r;rw[zl, Le] at r;obtain⟨hcl, r⟩ := r;have v : ∀i, i < 12 -> J (B val) (.sym (100 + i)) = R.at i := λi hi => zF I I (by show Zq R _ _ (100 + i) = _; unfold Zq; rw[Y I, LA]) (R.kept i);have w' : ∀i, i < 300 -> WF (B val) (.sym i) := λi hi => zE hi;have Q : J (B val) (.sym 120) = .int .i64 (R.does.size : Nat) := zF C C (show Zq R _ _ 120 = _ from rfl) rfl;have P : J (B val) (.sym 121) = .int .i64 (R.at_.size : Nat) := zF C C (show Zq R _ _ 121 = _ from rfl) rfl
  have hel : ∀i, i < k + l -> WF (B val) (el k i) /\ J (B val) (el k i) = .int .i64 ((R.els[i]?).getD 0 : Nat) := by
    intro i hi;unfold el;rw[zo, zW];by_cases h : i < k
    · rw[Y (by simpa using h)]
      refine⟨w' _ (by show 72 + i < 300; omega), ?_⟩;rw[show Nat.add 72 i = 72 + i from rfl, Zr I];show qn (if 72 + i = 60 then _ else if 72 + i = 61 then _ else if 72 <= 72 + i /\ 72 + i < 77 then ZI l1 (72 + i - 72) else _) = _;rw[O I, O I, Y I, LA, kY];unfold zy.els;rw[Ao h]
    · rw[O (by simpa using h)]
      refine⟨w' _ (by show 77 + (i - k) < 300; omega), ?_⟩;rw[show Nat.add 77 (Nat.sub i k) = 77 + (i - k) from rfl, Zr I];show qn (if 77 + (i - k) = 60 then _ else if 77 + (i - k) = 61 then _ else if 72 <= 77 + (i - k) /\ 77 + (i - k) < 77 then _ else if 77 <= 77 + (i - k) /\ 77 + (i - k) < 82 then ZI l2 (77 + (i - k) - 77) else _) = _;rw[O I, O I, O I, Y I, LA, kY];unfold zy.els;rw[Aj (by show l1.length <= i; omega)]
  have c : zJ (J4 (kO k l j d) (elT k l)) (B val) := by
    intro f c;have c : f ∈ kO k l j d := c;unfold kO at c;rcases zY c with c|c
    · simp only[gW, Lf, Lq, Lo] at c
      rcases c with rfl|rfl|rfl|rfl
      · exact Zv (b := true) (w' 102 C) (v 2 C) (λw => hn ▸ aU hR.tenant w)
      · exact Z2 (b := false) (w' 103 C) (v 3 C) (by symm; rw[LH]; exact hs)
      · exact Zv (b := true) (w' 104 C) (v 4 C) (λw => ha ▸ aU hR.action w)
      · exact Zv (b := true) (w' 105 C) (v 5 C) (λw => hp ▸ nS hR.path w)
    rcases zY c with c|c
    · simp only[userF, Lf, Lq, Lo] at c
      rcases c with rfl|rfl
      · exact Z2 (b := false) (w' 108 C) (v 8 C) (by have := hR.user; symm; rw[LH]; show ¬R.user < ((0 : Nat) : Int); omega)
      · exact yB (b := false) (w' 108 C) (v 8 C) (by symm; rw[LH]; exact hu)
    rcases zY c with c|c
    · unfold elF at c
      obtain⟨i, hi, c⟩ := AE.1 c;have hi : i < k + l := Lr.1 hi;rw[zo] at c;split at c
      · rename_i hij
        have hij : i <= j := Nat.ble_eq.mp hij;obtain⟨g1, g2⟩ := hel i hi;simp only[Lf, Lq, Lo] at c;rcases c with rfl|rfl
        · exact Z2 (b := false) g1 g2 (by symm; rw[LH]; omega)
        · refine yB g1 g2 ?_
          by_cases e : i = j
          · subst e
            rw[show Nat.beq i i = true by rw[zA]; simp];symm;rw[Lk];have := j3 hi;exact Int.ofNat_lt.2 this
          · rw[show Nat.beq i j = false by rw[zA]; simpa using e]
            symm;rw[LH];have := j2 i I;omega
      · cases c
    · rw[zo] at c
      split at c
      · rename_i hjk
        have hjk : j = k + l := eq_of_beq_eq_true hjk;simp only[iO, Lf, Lq, Lo] at c;rcases c with rfl|rfl|rfl|rfl
        · exact XR (w' 109 C) (w' 120 C) (v 9 C) Q
        · refine yB (w' 120 C) Q ?_
          show(decide (12 < R.does.size) && decide (j = k + l)) = _;rw[Lx hjk, Bool.and_true];exact decide_eq_decide.2 I
        · exact XR (w' 110 C) (w' 121 C) (v 10 C) P
        · exact gl (w' 121 C) P (by have := hR.at_.JB; omega)
      · cases c
  have row : ∀(row a : Nat) (ls : List Nat) (x : Nat × Nat × Nat) (u : Value), kT w u ls x -> ls.length <= 5 -> Unk.place row = (x.1, x.2.1, x.2.2 - ls.length) -> (∀i, i < 5 -> Unk.place (a + i) = ZI ls i) ->
      ∀p ∈ lsT row a ls.length, zO prog (λid => some (Unk.place id)) p.2 (Unk.place p.1) w := by
    intro row a ls x u hx h5 t hat p hp
    cases g : ls.length with
    | zero => rw[g] at hp; cases hp
    | succ n =>
      rw[g] at hp;have hp : p ∈ [(row, X.cells 3 (n + 1) (M.ofList ((List.range (n + 1)).map λi => .sym (Nat.add a i))))] := hp;rw[Lu] at hp;subst hp;have T : ls ≠ [] := λe => by rw[e] at g; cases g
      obtain⟨_, m1, arr, fz, m2, m3, m4, m5⟩ := hx.some_ T;rw[g] at t m1;rw[t];refine⟨arr, fz, m2, ?_, λi u hu => ?_, m4, by rw[XN]; exact Nat.one_dvd _⟩
      · show x.2.1 + (n + 1) + (x.2.2 - (n + 1)) * qS prog 3 <= arr.size
        rw[XN];omega
      · rw[M.qy, Lw] at hu
        obtain⟨i', hi', rfl⟩ := LU.1 hu;have hlt : i < n + 1 := by have := (LL.1 hi').1; simpa using this
        rw[Ah hlt] at hi';cases hi';refine⟨rfl, ?_⟩;show arr[x.2.1 + i]?=some (qn (Unk.place (a + i)));have hl : i < ls.length := by omega
        rw[hat i I, kY, m5 i hl, Ly hl];rfl
  have ht : ql prog (elT k l) w := by
    refine⟨λid => some (Unk.place id), λ_ _ => rfl, λp hp => ?_⟩;rcases LJ.1 hp with hp|hp
    · refine row 60 72 l1 x1 v1 k1 hk rfl (λi hi => ?_) p hp
      show(if 72 + i = 60 then _ else if 72 + i = 61 then _ else if 72 <= 72 + i /\ 72 + i < 77 then ZI l1 (72 + i - 72) else _) = _;rw[O I, O I, Y I, LA]
    · refine row 61 77 l2 x2 v2 k2 hl rfl (λi hi => ?_) p hp
      show(if 77 + i = 60 then _ else if 77 + i = 61 then _ else if 72 <= 77 + i /\ 77 + i < 77 then _ else if 77 <= 77 + i /\ 77 + i < 82 then ZI l2 (77 + i - 77) else _) = _;rw[O I, O I, O I, Y I, LA]
  have z : ∀(row : Nat) (ls : List Nat) (x : Nat × Nat × Nat) (u : Value), kT w u ls x -> row < 100 -> Unk.place row = (x.1, x.2.1, x.2.2 - ls.length) -> WF (B val) (lsV row ls.length) /\ J (B val) (lsV row ls.length) = u := by
    intro row ls x u hx hrow t
    cases g : ls.length with
    | zero => exact⟨trivial, (hx.none_ (Ax g)).symm⟩
    | succ n =>
      have T : ls ≠ [] := λe => by rw[e] at g; cases g
      obtain⟨m0, m1, _⟩ := hx.some_ T;rw[g] at t m0 m1;have hβ : B val row = some (x.1, x.2.1, x.2.2 - (n + 1)) := by rw[WZ hrow, t]
      refine⟨⟨by rw[hβ]; rfl, Lh _⟩, ?_⟩;show J (B val) (.slice row 0 (n + 1) (n + 1) false) = u;rw[m0];simp only[J, Inj.addr, Inj.blk, Inj.sh, Inj.ext, hβ, LW];rw[O C, Nat.add_sub_cancel' m1];rfl
  obtain⟨q1, q2⟩ := z 60 l1 x1 v1 k1 C rfl;obtain⟨q3, q4⟩ := z 61 l2 x2 v2 k2 C rfl
  have := kv (E := J4 (kO k l j d) (elT k l)) (xl _ _) C (Zx (val := val)) c hcl r
    ⟨⟨w' 100 C, w' 101 C, w' 102 C, w' 103 C, w' 104 C, w' 105 C, w' 106 C, trivial, w' 108 C, q1, q3, w' 109 C, w' 110 C, w' 111 C, trivial⟩, trivial⟩ (w := w) ht
  have ea : K (B val) [recC (.bool true) (lsV 60 k) (lsV 61 l)] = [.agg (R.l1 ++ v1 :: v2 :: R.l2).toArray] := by
    unfold recC;rw[K, K, Z4];simp only[K];rw[q2, q4, v 0 C, v 1 C, v 2 C, v 3 C, v 4 C, v 5 C, v 6 C, v 8 C, v 9 C, v 10 C, v 11 C];show[Value.agg (_ :: _ :: _ :: _ :: _ :: _ :: _ :: Value.bool true :: _).toArray] = _;rw[<- hg];rfl
  rw[show zQ (YI val) = B val from rfl, ea] at this;refine this.mono λe w2 hx => ⟨hx.1, ?_⟩
  rw[hx.2.1]
  have hres : Xr k l j d = R.ZM := by
    have H : (∃m ∈ R.els, 63 < m) ↔ j < k + l := by
      constructor
      · rintro⟨m, hm, h63⟩
        obtain⟨i, hi, e⟩ := List.getElem_of_mem hm;rcases LD j (k + l) with h|h
        · exact h
        · exfalso
          refine j2 i I ?_;show 63 < (R.els[i]?).getD 0;rw[Ly hi, e];exact h63
      · intro h
        have hb := j3 h;have hjl : j < R.els.length := by omega
        refine⟨R.els[j], AL hjl, ?_⟩;have hb : 63 < (R.els[j]?).getD 0 := hb;rw[Ly hjl] at hb;exact hb
    unfold Xr zy.ZM;rw[O (by rw[hg]; simp), O I];rw[zo, zW];by_cases h : j < k + l
    · rw[Y (show decide (j < Nat.add k l) = true from Lx h), Y (.inr (H.2 h))]
    · rw[O (by rw[show Nat.add k l = k + l from rfl]; simpa using h), O (by rintro(h'|h'); exact hu h'; exact h (H.1 h')), zo]
      have hd : d = decide (12 < R.does.size) := by
        show(decide (12 < R.does.size) && decide (j = k + l)) = _;rw[Lx (show j = k + l by omega), Bool.and_true]
      rw[hd];by_cases y : 12 < R.does.size
      · rw[Y (Lx y), Y y]
      · rw[O (by simpa using y), O y]
  rw[hres];rfl
end
def fq{o:En}(hs:Qc o)(h:AtS w v o)(a:qj o=0):v = .slice none 0 0:=by
 cases o with
 | none=>exact h
 | some s=>
  have:=(hs s rfl).1;have e:qj (some s)=s.size:=zR s;omega
section
variable{R:zy}(hR:R.Ok)
include hR
theorem ah(hn:isN R.tenant=true)(hs:¬R.session<1)(ha:isN R.action=true)(hp:isP R.path=true)(n:R.granted=false)(m:R.zero)(w:Ea):Calls prog 30 #[.agg (R.l1++.slice none 0 0::.slice none 0 0::R.l2).toArray] w λe w2=>Grown w w2/\e = .returned (.int .i64 ((0:Nat):Int)):=by
 obtain⟨h,z2,r,k,j,l⟩:=m;letI:=unk0;let val:=Zq R 0 0;have c:=ckz;unfold UO at c;have v:∀i,i<12->J (B val) (.sym (100+i))=R.at i:=λi hi=>zF I I (by show Zq R _ _ (100+i)=_;unfold Zq;rw[Y I,LA]) (R.kept i);have w':∀i,i<300->WF (B val) (.sym i):=λi hi=>zE hi;have g:J (B val) (.sym 120) = .int .i64 (R.does.size:Nat):=zF C C (show Zq R _ _ 120=_ from rfl) rfl;have d:J (B val) (.sym 121) = .int .i64 (R.at_.size:Nat):=zF C C (show Zq R _ _ 121=_ from rfl) rfl
 have a:zJ (J4 XV []) (B val):=by
  intro f a;have a:f∈XV:=a;unfold XV at a;rcases zY a with a|a
  .simp only[gW,Lf,Lq,Lo]at a;rcases a with rfl|rfl|rfl|rfl
   .exact Zv (b:=true) (w' 102 C) (v 2 C) (λw=>hn ▸ aU hR.tenant w)
   .exact Z2 (b:=false) (w' 103 C) (v 3 C) (by symm;rw[LH];exact hs)
   .exact Zv (b:=true) (w' 104 C) (v 4 C) (λw=>ha ▸ aU hR.action w)
   .exact Zv (b:=true) (w' 105 C) (v 5 C) (λw=>hp ▸ nS hR.path w)
  rcases zY a with a|a
  .simp only[Lf,Lq,Lo]at a;rcases a with rfl|rfl|rfl|rfl
   .exact JQ (w' 108 C) trivial (v 8 C) (show J (B val) (qc 0) = .int .i64 ((0:Nat):Int) from rfl) (by rw[h];rfl)
   .exact XS (w' 109 C) (by intro b hb;cases hb) (v 9 C) (show J (B val) (.str []) = .string (str []) from rfl) (by symm;rw[Lk];exact(jH _).1 k)
   .exact XS (w' 110 C) (by intro b hb;cases hb) (v 10 C) (show J (B val) (.str []) = .string (str []) from rfl) (by symm;rw[Lk];exact(jH _).1 j)
   .exact zcm (w' 111 C) trivial (v 11 C) (show J (B val) (.bool false) = .bool false from rfl) (by rw[l];rfl)
  rcases zY a with a|a
  .simp only[userF,Lf,Lq,Lo]at a;rcases a with rfl|rfl
   .exact Z2 (b:=false) (w' 108 C) (v 8 C) (by symm;rw[LH,h];decide)
   .exact yB (b:=false) (w' 108 C) (v 8 C) (by symm;rw[LH,h];decide)
  .simp only[iO,Lf,Lq,Lo]at a;rcases a with rfl|rfl|rfl|rfl
   .exact XR (w' 109 C) (w' 120 C) (v 9 C) g
   .exact yB (b:=false) (w' 120 C) g (by symm;rw[LH,k];decide)
   .exact XR (w' 110 C) (w' 121 C) (v 10 C) d
   .exact gl (w' 121 C) d (by rw[j];decide)
 have:=kv (E:=J4 XV []) (xl _ _) C (Zx (val:=val)) a rfl c
  ⟨⟨w' 100 C,w' 101 C,w' 102 C,w' 103 C,w' 104 C,w' 105 C,w' 106 C,trivial,w' 108 C,trivial,trivial,w' 109 C,w' 110 C,w' 111 C,trivial⟩,trivial⟩ (w:=w) ko
 have p:K (B val) [recC (.bool false) .nilslice .nilslice]=[.agg (R.l1++.slice none 0 0::.slice none 0 0::R.l2).toArray]:=by
  unfold recC;rw[K,K,Z4];simp only[K];rw[v 0 C,v 1 C,v 2 C,v 3 C,v 4 C,v 5 C,v 6 C,v 8 C,v 9 C,v 10 C,v 11 C];show[Value.agg (_::_::_::_::_::_::_::Value.bool false::_).toArray]=_;rw[<- n];rfl
 rw[show zQ (YI val)=B val from rfl,p]at this;exact this.mono λe w2 hx=>⟨hx.1,hx.2.1⟩
theorem xI{v1 v2:Ei}(h1:AtS w v1 R.up)(h2:AtS w v2 R.down):Calls prog 30 #[.agg (R.l1++v1::v2::R.l2).toArray] w λe w2=>Grown w w2/\e = .returned (.int .i64 (R.err:Nat)):=by
 obtain⟨p1,c1,e1⟩:=h1.slice;obtain⟨p2,c2,e2⟩:=h2.slice;have no:∀ {a b:Nat}{p:Prop},a<b->b<=a->p:=λh1 h2=>Ld h1 I
 have st:∀c,uY R c->eM c=R.err->Calls prog 30 #[.agg (R.l1++v1::v2::R.l2).toArray] w λe w2=>Grown w w2/\e = .returned (.int .i64 (R.err:Nat)):=by
  intro c hs he;rw[e1,e2,<- he];exact VT hR hs w
 have T:∀ {b:Bool},b≠false->b=true:=λh=>by simpa using h
 by_cases hn:isN R.tenant=false
 .refine st 0 ⟨C,hn,λh=>no h C,λh=>no h C,λh=>no h C,λh=>no h C,λh=>no h C,λh=>no h C,λh=>no h C,λh=>no h C,λh=>no h C,λh=>no h C,λh=>no h C,λh=>no h C⟩ ?_;unfold zy.err;rw[Y hn];rfl
 have d:=T hn;by_cases hs:R.session<1
 .refine st 1 ⟨C,d,λ_=>Lx hs,λh=>no h C,λh=>no h C,λh=>no h C,λh=>no h C,λh=>no h C,λh=>no h C,λh=>no h C,λh=>no h C,λh=>no h C,λh=>no h C,λh=>no h C⟩ ?_;unfold zy.err;rw[O hn,Y hs];rfl
 have g:decide (R.session<1)=false:=LC hs;by_cases ha:isN R.action=false
 .refine st 2 ⟨C,d,λ_=>g,λ_=>ha,λh=>no h C,λh=>no h C,λh=>no h C,λh=>no h C,λh=>no h C,λh=>no h C,λh=>no h C,λh=>no h C,λh=>no h C,λh=>no h C⟩ ?_;unfold zy.err;rw[O hn,O hs,Y ha];rfl
 have f:=T ha;by_cases hp:isP R.path=false
 .refine st 3 ⟨C,d,λ_=>g,λ_=>f,λ_=>hp,λh=>no h C,λh=>no h C,λh=>no h C,λh=>no h C,λh=>no h C,λh=>no h C,λh=>no h C,λh=>no h C,λh=>no h C⟩ ?_;unfold zy.err;rw[O hn,O hs,O ha,Y hp];rfl
 have i:=T hp;have j:R.err=R.ZM:=by unfold zy.err;rw[O hn,O hs,O ha,O hp]
 by_cases m:R.granted=false
 .have v:¬R.zero->R.err=6:=λh=>by rw[j];unfold zy.ZM;rw[Y ⟨m,h⟩]
  by_cases u0:R.user=0
  .by_cases Q:0<qj R.up+qj R.down
   .refine st 5 ⟨C,d,λ_=>g,λ_=>f,λ_=>i,λ_=>m,λ_ _=>Lx u0,λ_ _=>Lx Q,λh=>no h C,λh=>no h C,λh=>no h C,λh=>no h C,λh=>no h C,λh=>no h C⟩ (v λz=>by have:=z.2.1;have:=z.2.2.1;omega).symm
   .have n:decide (0<qj R.up+qj R.down)=false:=LC Q;by_cases u:R.does.size=0
    .by_cases y:R.at_.size=0
     .by_cases H:R.deep=true
      .refine st 8 ⟨C,d,λ_=>g,λ_=>f,λ_=>i,λ_=>m,λ_ _=>Lx u0,λ_ _=>n,λ_ _=>Lx u,λ_ _=>Lx y,λ_ _=>H,λh=>no h C,λh=>no h C,λh=>no h C⟩ (v λz=>by have:=z.2.2.2.2.2;rw[H]at this;cases this).symm
      .have r:R.zero:=⟨u0,I,I,u,y,by simpa using H⟩
       have hc:R.err=0:=by
        rw[j];unfold zy.ZM
        have t:¬ ∃k∈R.els,63<k:=by
         rintro⟨k,hk,_⟩
         have h1:qj R.up=0:=by omega
         have h2:qj R.down=0:=by omega
         unfold qj at h1 h2
         have:R.els.length=0:=by
          show(zI R.up++zI R.down).length=0;rw[Lm];omega
         rw[Ax this]at hk;cases hk
        rw[O (λh=>h.2 r),O I,O (by rintro(h|h);omega;exact t h),O I]
       rw[fq hR.up h1 I,fq hR.down h2 I,hc];exact ah hR d hs f i m r w
     .refine st 7 ⟨C,d,λ_=>g,λ_=>f,λ_=>i,λ_=>m,λ_ _=>Lx u0,λ_ _=>n,λ_ _=>Lx u,λ_ _=>LC y,λh=>no h C,λh=>no h C,λh=>no h C,λh=>no h C⟩ (v λz=>y z.2.2.2.2.1).symm
    .refine st 6 ⟨C,d,λ_=>g,λ_=>f,λ_=>i,λ_=>m,λ_ _=>Lx u0,λ_ _=>n,λ_ _=>LC u,λh=>no h C,λh=>no h C,λh=>no h C,λh=>no h C,λh=>no h C⟩ (v λz=>u z.2.2.2.1).symm
  .refine st 4 ⟨C,d,λ_=>g,λ_=>f,λ_=>i,λ_=>m,λ_ _=>LC u0,λh=>no h C,λh=>no h C,λh=>no h C,λh=>no h C,λh=>no h C,λh=>no h C,λh=>no h C⟩ (v λz=>u0 z.1).symm
 .have l:=T m;have r:¬(R.granted=false/\¬R.zero):=λh=>m h.1;by_cases x:63<qj R.up
  .refine st 9 ⟨C,d,λ_=>g,λ_=>f,λ_=>i,λ_=>l,λ_ h=>no h C,λ_ h=>no h C,λ_ h=>no h C,λ_ h=>no h C,λ_ h=>no h C,λ_=>Lx x,λh=>no h C,λh=>no h C⟩ ?_;rw[j];unfold zy.ZM;rw[O r,Y (.inl x)];rfl
  .by_cases P:63<qj R.down
   .refine st 10 ⟨C,d,λ_=>g,λ_=>f,λ_=>i,λ_=>l,λ_ h=>no h C,λ_ h=>no h C,λ_ h=>no h C,λ_ h=>no h C,λ_ h=>no h C,λ_=>LC x,λ_=>Lx P,λh=>no h C⟩ ?_;rw[j];unfold zy.ZM;rw[O r,Y (.inr P)];rfl
   .by_cases u1:256<R.user
    .refine st 11 ⟨C,d,λ_=>g,λ_=>f,λ_=>i,λ_=>l,λ_ h=>no h C,λ_ h=>no h C,λ_ h=>no h C,λ_ h=>no h C,λ_ h=>no h C,λ_=>LC x,λ_=>LC P,λ_=>u1⟩ ?_;rw[j];unfold zy.ZM;rw[O r,O I,Y (.inl u1)];rfl
    .have q1:=yR hR.up;have q2:=yR hR.down;obtain⟨x1,k1⟩:=kP hR.up h1;obtain⟨x2,k2⟩:=kP hR.down h2;rw[j];exact aY hR d hs f i l u1 I I k1 k2
end
end CK
namespace CH
open CK(Qq Zq kT kP jH fq)
section
variable{R:zy}(hR:R.Ok){p1 p2:Ed}{c1 c2:Nat}
structure uY(R:zy)(c:Nat):Prop where
 lt:c<8
 g:R.granted=Xh c
 z0:c<6->decide (R.user=0)=Nat.blt 0 c
 z1:1<=c->c<6->decide (qj R.up=0)=Nat.blt 1 c
 z2:2<=c->c<6->decide (qj R.down=0)=Nat.blt 2 c
 z3:3<=c->c<6->decide (R.does.size=0)=Nat.blt 3 c
 z4:4<=c->c<6->decide (R.at_.size=0)=Nat.blt 4 c
 z5:c=5->R.deep=true
 l1:6<=c->decide (63<qj R.up)=Nat.beq c 6
 l2:7<=c->decide (63<qj R.down)=Nat.beq c 7
include hR
theorem VT(hs:uY R c)(w:Ea):Calls prog 70 #[.agg (R.l1++.slice p1 (qj R.up) c1::.slice p2 (qj R.down) c2::R.l2).toArray] w λe w2=>Grown w w2/\e = .returned (.int .i64 (eM c:Nat)):=by
 letI:=unkO p1 (qj R.up) c1 p2 (qj R.down) c2;let val:=Zq R (qj R.up) (qj R.down);have m:JR c=true:=jw ch0 c (Lr.2 hs.lt);unfold JR at m;have v:∀i,i<12->J (B val) (.sym (100+i))=R.at i:=λi hi=>zF I I (by show Zq R _ _ (100+i)=_;unfold Zq;rw[Y I,LA]) (R.kept i);have w':∀i,i<300->WF (B val) (.sym i):=λi hi=>zE hi;have t:J (B val) (.sym 70) = .slice p1 (qj R.up) c1:=by rw[Zr C];rfl
 have r:J (B val) (.sym 71) = .slice p2 (qj R.down) c2:=by rw[Zr C];rfl
 have d:J (B val) (.sym 122) = .int .i64 (qj R.up:Nat):=zF C C (show Zq R _ _ 122=_ from rfl) rfl;have a:J (B val) (.sym 123) = .int .i64 (qj R.down:Nat):=zF C C (show Zq R _ _ 123=_ from rfl) rfl;have x:J (B val) (qc 0) = .int .i64 ((0:Nat):Int):=rfl
 have hzero:∀i f,(re c)[i]?=some f->i<QQ c->c<6->zu prog [] (B val) f:=by
  intro i f hi hn j
  have z:c=0/\QQ c=1\/c=1/\QQ c=3\/c=2/\QQ c=5\/c=3/\QQ c=6\/c=4/\QQ c=7\/c=5/\QQ c=7:=by
   have:c=0\/c=1\/c=2\/c=3\/c=4\/c=5:=by omega
   rcases this with rfl|rfl|rfl|rfl|rfl|rfl
   .exact .inl ⟨rfl,rfl⟩
   .exact .inr (.inl ⟨rfl,rfl⟩)
   .exact .inr (.inr (.inl ⟨rfl,rfl⟩))
   .exact .inr (.inr (.inr (.inl ⟨rfl,rfl⟩)))
   .exact .inr (.inr (.inr (.inr (.inl ⟨rfl,rfl⟩))))
   .exact .inr (.inr (.inr (.inr (.inr ⟨rfl,rfl⟩))))
  have k:∀(n:Int),(n==0)=decide (n=0):=λn=>by by_cases h:n=0<;>simp[h]
  match i,hi,hn with
  | 0,hi,hn=>cases hi;exact JQ (w' 108 C) trivial (v 8 C) x ((hs.z0 j).symm.trans (k _).symm)
  | 1,hi,hn=>cases hi;exact Q8 (w' 70 C) (w' 122 C) t d
  | 2,hi,hn=>cases hi;exact JQ (w' 122 C) trivial d x ((hs.z1 I j).symm.trans ((decide_eq_decide.2 I).trans (k _).symm))
  | 3,hi,hn=>cases hi;exact Q8 (w' 71 C) (w' 123 C) r a
  | 4,hi,hn=>cases hi;exact JQ (w' 123 C) trivial a x ((hs.z2 I j).symm.trans ((decide_eq_decide.2 I).trans (k _).symm))
  | 5,hi,hn=>cases hi;exact XS (w' 109 C) (by intro b hb;cases hb) (v 9 C) (show J (B val) (.str []) = .string (str []) from rfl) ((hs.z3 I j).symm.trans (decide_eq_decide.2 (jH _)))
  | 6,hi,hn=>cases hi;exact XS (w' 110 C) (by intro b hb;cases hb) (v 10 C) (show J (B val) (.str []) = .string (str []) from rfl) ((hs.z4 I j).symm.trans (decide_eq_decide.2 (jH _)))
  | i+7,hi,hn=>cases hi
 have p:∀i f,(ti c)[i]?=some f->i<VI c->6<=c->zu prog [] (B val) f:=by
  intro i f hi hn j;have hc:=hs.lt
  have hl:c=6/\VI c=2\/c=7/\VI c=4:=by
   have:c=6\/c=7:=by omega
   rcases this with rfl|rfl
   .exact .inl ⟨rfl,rfl⟩
   .exact .inr ⟨rfl,rfl⟩
  match i,hi,hn with
  | 0,hi,hn=>cases hi;exact Q8 (w' 70 C) (w' 122 C) t d
  | 1,hi,hn=>cases hi;exact yB (w' 122 C) d ((hs.l1 j).symm.trans (decide_eq_decide.2 I))
  | 2,hi,hn=>cases hi;exact Q8 (w' 71 C) (w' 123 C) r a
  | 3,hi,hn=>cases hi;exact yB (w' 123 C) a ((hs.l2 I).symm.trans (decide_eq_decide.2 I))
  | i+4,hi,hn=>cases hi
 have l:zJ (J4 (JA c) []) (B val):=by
  intro f l;have l:f∈JA c:=l;unfold JA at l;rw[zo,zW]at l;by_cases j:c<6
  .rw[Y (by simpa using j)]at l;obtain⟨i,hi,e⟩:=Qq _ _ _ l;exact hzero i f e hi j
  .rw[O (by simpa using j)]at l;obtain⟨i,hi,e⟩:=Qq _ _ _ l;exact p i f e hi I
 have u:WF (B val) (ifB (Nat.beq c 5) (.bool true) (.sym 111))/\J (B val) (ifB (Nat.beq c 5) (.bool true) (.sym 111)) = .bool R.deep:=by
  rw[zo];split
  .rename_i h;rw[hs.z5 (eq_of_beq_eq_true h)];exact⟨trivial,rfl⟩
  .exact⟨w' 111 C,v 11 C⟩
 have this:=kv (E:=J4 (JA c) []) (xl _ _) C (Zx (val:=val)) l rfl m (by
  refine⟨⟨w' 100 C,w' 101 C,w' 102 C,w' 103 C,w' 104 C,w' 105 C,w' 106 C,?_,w' 108 C,w' 70 C,w' 71 C,w' 109 C,w' 110 C,u.1,trivial⟩,trivial⟩;rw[Z6]
  trivial) (w:=w) ko
 have y:K (B val) [zdk c (qx (Xh c)) (.sym 70) (.sym 71)]=[.agg (R.l1++.slice p1 (qj R.up) c1::.slice p2 (qj R.down) c2::R.l2).toArray]:=by
  unfold zdk;rw[K,K,Z4];simp only[K];rw[Z6,t,r,u.2,v 0 C,v 1 C,v 2 C,v 3 C,v 4 C,v 5 C,v 6 C,v 8 C,v 9 C,v 10 C];show[Value.agg (_::_::_::_::_::_::_::Value.bool (Xh c)::_).toArray]=_;rw[<- hs.g];rfl
 rw[show zQ (YI val)=B val from rfl,y]at this;exact this.mono λe w2 hx=>⟨hx.1,hx.2.1⟩
end
def fA{l:Nat}(a:k<=5)(hl:l<=5):zD k l=true:=by
 have h1:k=0\/k=1\/k=2\/k=3\/k=4\/k=5:=by omega
 have h2:l=0\/l=1\/l=2\/l=3\/l=4\/l=5:=by omega
 rcases h1 with rfl|rfl|rfl|rfl|rfl|rfl<;>rcases h2 with rfl|rfl|rfl|rfl|rfl|rfl
 .exact zh3
 .exact zh2
 .exact zh1
 .exact zh0
 .exact zhZ
 .exact zhY
 .exact zhX
 .exact zhW
 .exact zhV
 .exact zhU
 .exact zhT
 .exact zhS
 .exact zhR
 .exact zhQ
 .exact zhP
 .exact zhO
 .exact zhN
 .exact zhM
 .exact zhL
 .exact zhK
 .exact zhJ
 .exact zhI
 .exact zhH
 .exact zhG
 .exact zhF
 .exact zhE
 .exact zhD
 .exact zhC
 .exact zhB
 .exact zhA
 .exact zhz
 .exact zhy
 .exact zhx
 .exact zhw
 .exact zhv
 .exact zhu
section
variable{R:zy}(hR:R.Ok)
include hR
theorem aY(hg : R.granted = true)(h1 : qj R.up <= 5)(h2 : qj R.down <= 5){v1 v2 : Value}{x1 x2 : Nat × Nat × Nat}{w : World}
    (k1 : kT w v1 (zI R.up) x1) (k2 : kT w v2 (zI R.down) x2) : Calls prog 70 #[.agg (R.l1 ++ v1 :: v2 :: R.l2).toArray] w λe w2 => Grown w w2 /\ e = .returned (.int .i64 (R.ZM : Nat)) := by
  let l1 := zI R.up
  let l2 := zI R.down
  let k := l1.length
  let l := l2.length
  have hk : k <= 5 := h1;have hl : l <= 5 := h2;letI := unkE x1 x2 k l l1 l2;let val := Zq R k l;obtain⟨j, j1, j2, j3⟩ := YX (λi => 63 < (R.els[i]?).getD 0) (k + l);have hlen : R.els.length = k + l := Lm;let u : Bool := decide (256 < R.user) && decide (j = k + l);let d : Bool := decide (12 < R.does.size) && (decide (j = k + l) && !u)
  have y : QN k l j u d = true := by
    have := fA hk hl;unfold zD at this;rw[zl, Le, zl, Le] at this;by_cases t : u = true
    · have : j = k + l := by
        have h := t;rw[Le] at h;exact of_decide_eq_true h.2
      have hd : d = false := by
        show(decide (12 < R.does.size) && (decide (j = k + l) && !u)) = false;rw[t];simp
      rw[t, hd, this];exact ‹_ /\ _ /\ _›.2.2
    · have t : u = false := by simpa using t
      rw[t];by_cases hd : d = true
      · have : j = k + l := by
          have h := hd;rw[Le, Le] at h;exact of_decide_eq_true h.2.1
        rw[hd, this];exact ‹_ /\ _ /\ _›.2.1
      · rw[show d = false by simpa using hd]
        exact jw this.1 j (Lr.2 (by show j < k + l + 1; omega))
  unfold QN at y;rw[zl, Le] at y;obtain⟨hcl, y⟩ := y;have v : ∀i, i < 12 -> J (B val) (.sym (100 + i)) = R.at i := λi hi => zF I I (by show Zq R _ _ (100 + i) = _; unfold Zq; rw[Y I, LA]) (R.kept i);have w' : ∀i, i < 300 -> WF (B val) (.sym i) := λi hi => zE hi;have e120 : J (B val) (.sym 120) = .int .i64 (R.does.size : Nat) := zF C C (show Zq R _ _ 120 = _ from rfl) rfl;have e121 : J (B val) (.sym 121) = .int .i64 (R.at_.size : Nat) := zF C C (show Zq R _ _ 121 = _ from rfl) rfl
  have hel : ∀i, i < k + l -> WF (B val) (el k i) /\ J (B val) (el k i) = .int .i64 ((R.els[i]?).getD 0 : Nat) := by
    intro i hi;unfold el;rw[zo, zW];by_cases h : i < k
    · rw[Y (by simpa using h)]
      refine⟨w' _ (by show 72 + i < 300; omega), ?_⟩;rw[show Nat.add 72 i = 72 + i from rfl, Zr I];show qn (if 72 + i = 60 then _ else if 72 + i = 61 then _ else if 72 <= 72 + i /\ 72 + i < 77 then ZI l1 (72 + i - 72) else _) = _;rw[O I, O I, Y I, LA, kY];unfold zy.els;rw[Ao h]
    · rw[O (by simpa using h)]
      refine⟨w' _ (by show 77 + (i - k) < 300; omega), ?_⟩;rw[show Nat.add 77 (Nat.sub i k) = 77 + (i - k) from rfl, Zr I];show qn (if 77 + (i - k) = 60 then _ else if 77 + (i - k) = 61 then _ else if 72 <= 77 + (i - k) /\ 77 + (i - k) < 77 then _ else if 77 <= 77 + (i - k) /\ 77 + (i - k) < 82 then ZI l2 (77 + (i - k) - 77) else _) = _;rw[O I, O I, O I, Y I, LA, kY];unfold zy.els;rw[Aj (by show l1.length <= i; omega)]
  have g : zJ (J4 (kO k l j u d) (elT k l)) (B val) := by
    intro f g;have g : f ∈ kO k l j u d := g;unfold kO at g;rcases zY g with g|g
    · unfold elF at g
      obtain⟨i, hi, g⟩ := AE.1 g;have hi : i < k + l := Lr.1 hi;rw[zo] at g;split at g
      · rename_i hij
        have hij : i <= j := Nat.ble_eq.mp hij;obtain⟨g1, g2⟩ := hel i hi;simp only[Lf, Lq, Lo] at g;rcases g with rfl|rfl
        · exact Z2 (b := false) g1 g2 (by symm; rw[LH]; omega)
        · refine yB g1 g2 ?_
          by_cases e : i = j
          · subst e
            rw[show Nat.beq i i = true by rw[zA]; simp];symm;rw[Lk];have := j3 hi;exact Int.ofNat_lt.2 this
          · rw[show Nat.beq i j = false by rw[zA]; simpa using e]
            symm;rw[LH];have := j2 i I;omega
      · cases g
    · rw[zo] at g
      split at g
      · rename_i H
        have H : j = k + l := eq_of_beq_eq_true H;unfold BF at g;rcases zY g with g|g
        · simp only[userF, Lf, Lq, Lo] at g
          rcases g with rfl|rfl
          · exact Z2 (b := false) (w' 108 C) (v 8 C) (by have := hR.user; symm; rw[LH]; show ¬R.user < ((0 : Nat) : Int); omega)
          · refine yB (w' 108 C) (v 8 C) ?_
            show(decide (256 < R.user) && decide (j = k + l)) = _;rw[Lx H, Bool.and_true];rfl
        · rw[zo] at g
          split at g
          · cases g
          · rename_i t
            have t : u = false := by simpa using t
            simp only[iO, Lf, Lq, Lo] at g;rcases g with rfl|rfl|rfl|rfl
            · exact XR (w' 109 C) (w' 120 C) (v 9 C) e120
            · refine yB (w' 120 C) e120 ?_
              show(decide (12 < R.does.size) && (decide (j = k + l) && !u)) = _;rw[t, Lx H, Bool.not_false, Bool.and_true, Bool.and_true];exact decide_eq_decide.2 I
            · exact XR (w' 110 C) (w' 121 C) (v 10 C) e121
            · exact gl (w' 121 C) e121 (by have := hR.at_.JB; omega)
      · cases g
  have row : ∀(row a : Nat) (ls : List Nat) (x : Nat × Nat × Nat) (u : Value), kT w u ls x -> ls.length <= 5 -> Unk.place row = (x.1, x.2.1, x.2.2 - ls.length) -> (∀i, i < 5 -> Unk.place (a + i) = ZI ls i) ->
      ∀p ∈ lsT row a ls.length, zO prog (λid => some (Unk.place id)) p.2 (Unk.place p.1) w := by
    intro row a ls x u hx h5 z hat p hp
    cases r : ls.length with
    | zero => rw[r] at hp; cases hp
    | succ n =>
      rw[r] at hp;have hp : p ∈ [(row, X.cells 3 (n + 1) (M.ofList ((List.range (n + 1)).map λi => .sym (Nat.add a i))))] := hp;rw[Lu] at hp;subst hp;have hne : ls ≠ [] := λe => by rw[e] at r; cases r
      obtain⟨_, m1, arr, fz, m2, m3, m4, m5⟩ := hx.some_ hne;rw[r] at z m1;rw[z];refine⟨arr, fz, m2, ?_, λi u hu => ?_, m4, by rw[XN]; exact Nat.one_dvd _⟩
      · show x.2.1 + (n + 1) + (x.2.2 - (n + 1)) * qS prog 3 <= arr.size
        rw[XN];omega
      · rw[M.qy, Lw] at hu
        obtain⟨i', hi', rfl⟩ := LU.1 hu;have hlt : i < n + 1 := by have := (LL.1 hi').1; simpa using this
        rw[Ah hlt] at hi';cases hi';refine⟨rfl, ?_⟩;show arr[x.2.1 + i]?=some (qn (Unk.place (a + i)));have hl : i < ls.length := by omega
        rw[hat i I, kY, m5 i hl, Ly hl];rfl
  have ht : ql prog (elT k l) w := by
    refine⟨λid => some (Unk.place id), λ_ _ => rfl, λp hp => ?_⟩;rcases LJ.1 hp with hp|hp
    · refine row 60 72 l1 x1 v1 k1 hk rfl (λi hi => ?_) p hp
      show(if 72 + i = 60 then _ else if 72 + i = 61 then _ else if 72 <= 72 + i /\ 72 + i < 77 then ZI l1 (72 + i - 72) else _) = _;rw[O I, O I, Y I, LA]
    · refine row 61 77 l2 x2 v2 k2 hl rfl (λi hi => ?_) p hp
      show(if 77 + i = 60 then _ else if 77 + i = 61 then _ else if 72 <= 77 + i /\ 77 + i < 77 then _ else if 77 <= 77 + i /\ 77 + i < 82 then ZI l2 (77 + i - 77) else _) = _;rw[O I, O I, O I, Y I, LA]
  have Q : ∀(row : Nat) (ls : List Nat) (x : Nat × Nat × Nat) (u : Value), kT w u ls x -> row < 100 -> Unk.place row = (x.1, x.2.1, x.2.2 - ls.length) -> WF (B val) (lsV row ls.length) /\ J (B val) (lsV row ls.length) = u := by
    intro row ls x u hx hrow z
    cases r : ls.length with
    | zero => exact⟨trivial, (hx.none_ (Ax r)).symm⟩
    | succ n =>
      have hne : ls ≠ [] := λe => by rw[e] at r; cases r
      obtain⟨m0, m1, _⟩ := hx.some_ hne;rw[r] at z m0 m1;have hβ : B val row = some (x.1, x.2.1, x.2.2 - (n + 1)) := by rw[WZ hrow, z]
      refine⟨⟨by rw[hβ]; rfl, Lh _⟩, ?_⟩;show J (B val) (.slice row 0 (n + 1) (n + 1) false) = u;rw[m0];simp only[J, Inj.addr, Inj.blk, Inj.sh, Inj.ext, hβ, LW];rw[O C, Nat.add_sub_cancel' m1];rfl
  obtain⟨q1, q2⟩ := Q 60 l1 x1 v1 k1 C rfl;obtain⟨q3, q4⟩ := Q 61 l2 x2 v2 k2 C rfl
  have := kv (E := J4 (kO k l j u d) (elT k l)) (xl _ _) C (Zx (val := val)) g hcl y
    ⟨⟨w' 100 C, w' 101 C, w' 102 C, w' 103 C, w' 104 C, w' 105 C, w' 106 C, trivial, w' 108 C, q1, q3, w' 109 C, w' 110 C, w' 111 C, trivial⟩, trivial⟩ (w := w) ht
  have ea : K (B val) [recC (.bool true) (lsV 60 k) (lsV 61 l)] = [.agg (R.l1 ++ v1 :: v2 :: R.l2).toArray] := by
    unfold recC;rw[K, K, Z4];simp only[K];rw[q2, q4, v 0 C, v 1 C, v 2 C, v 3 C, v 4 C, v 5 C, v 6 C, v 8 C, v 9 C, v 10 C, v 11 C];show[Value.agg (_ :: _ :: _ :: _ :: _ :: _ :: _ :: Value.bool true :: _).toArray] = _;rw[<- hg];rfl
  rw[show zQ (YI val) = B val from rfl, ea] at this;refine this.mono λe w2 hx => ⟨hx.1, ?_⟩
  rw[hx.2.1]
  have hres : Xr k l j u d = R.ZM := by
    have T : (∃m ∈ R.els, 63 < m) ↔ j < k + l := by
      constructor
      · rintro⟨m, hm, h63⟩
        obtain⟨i, hi, e⟩ := List.getElem_of_mem hm;rcases LD j (k + l) with h|h
        · exact h
        · exfalso
          refine j2 i I ?_;show 63 < (R.els[i]?).getD 0;rw[Ly hi, e];exact h63
      · intro h
        have hb := j3 h;have hjl : j < R.els.length := by omega
        refine⟨R.els[j], AL hjl, ?_⟩;have hb : 63 < (R.els[j]?).getD 0 := hb;rw[Ly hjl] at hb;exact hb
    unfold Xr zy.ZM;rw[O (by rw[hg]; simp), O I];rw[zo, zW];by_cases h : j < k + l
    · rw[Y (show decide (j < Nat.add k l) = true from Lx h), Y (.inr (T.2 h))]
    · rw[O (by rw[show Nat.add k l = k + l from rfl]; simpa using h)]
      have hj : j = k + l := by omega
      have hu' : u = decide (256 < R.user) := by
        show(decide (256 < R.user) && decide (j = k + l)) = _;rw[Lx hj, Bool.and_true]
      have hd' : u = false -> d = decide (12 < R.does.size) := λg => by
        show(decide (12 < R.does.size) && (decide (j = k + l) && !u)) = _;rw[Lx hj, g, Bool.not_false, Bool.and_true, Bool.and_true]
      have e : ∀(a c : Bool), ifB a 2 (ifB c 3 0) = if a = true then 2 else if c = true then 3 else 0 := by intro a c; cases a <;> cases c <;> rfl
      refine(e u d).trans ?_;by_cases hu : 256 < R.user
      · rw[Y (show u = true from hu'.trans (Lx hu)), Y (.inl hu)]
      · have g : u = false := hu'.trans (LC hu)
        rw[O (show ¬(u = true) from λh => Bool.noConfusion (g.symm.trans h)), O (show ¬(256 < R.user \/ ∃k, k ∈ R.els /\ 63 < k) by rintro(h'|h'); exact hu h'; exact h (T.1 h'))];by_cases P : 12 < R.does.size
        · rw[Y (show d = true from(hd' g).trans (Lx P)), Y P]
        · rw[O (show ¬(d = true) from λh => Bool.noConfusion (((hd' g).trans (LC P)).symm.trans h)), O P]
  rw[hres];rfl
end
section
variable{R:zy}(hR:R.Ok)
include hR
theorem ah(n:R.granted=false)(m:R.zero)(w:Ea):Calls prog 70 #[.agg (R.l1++.slice none 0 0::.slice none 0 0::R.l2).toArray] w λe w2=>Grown w w2/\e = .returned (.int .i64 ((0:Nat):Int)):=by
 obtain⟨h,z2,r,k,j,l⟩:=m;letI:=unk0;let val:=Zq R 0 0;have c:=chz;unfold UO at c;have v:∀i,i<12->J (B val) (.sym (100+i))=R.at i:=λi hi=>zF I I (by show Zq R _ _ (100+i)=_;unfold Zq;rw[Y I,LA]) (R.kept i);have w':∀i,i<300->WF (B val) (.sym i):=λi hi=>zE hi;have g:J (B val) (.sym 120) = .int .i64 (R.does.size:Nat):=zF C C (show Zq R _ _ 120=_ from rfl) rfl;have d:J (B val) (.sym 121) = .int .i64 (R.at_.size:Nat):=zF C C (show Zq R _ _ 121=_ from rfl) rfl
 have a:zJ (J4 XV []) (B val):=by
  intro f a;have a:f∈XV:=a;unfold XV at a;rcases zY a with a|a
  .simp only[Lf,Lq,Lo]at a;rcases a with rfl|rfl|rfl
   .exact JQ (w' 108 C) trivial (v 8 C) (show J (B val) (qc 0) = .int .i64 ((0:Nat):Int) from rfl) (by rw[h];rfl)
   .exact XS (w' 109 C) (by intro b hb;cases hb) (v 9 C) (show J (B val) (.str []) = .string (str []) from rfl) (by symm;rw[Lk];exact(jH _).1 k)
   .exact XS (w' 110 C) (by intro b hb;cases hb) (v 10 C) (show J (B val) (.str []) = .string (str []) from rfl) (by symm;rw[Lk];exact(jH _).1 j)
  unfold BF at a;rcases zY a with a|a
  .simp only[userF,Lf,Lq,Lo]at a;rcases a with rfl|rfl
   .exact Z2 (b:=false) (w' 108 C) (v 8 C) (by symm;rw[LH,h];decide)
   .exact yB (b:=false) (w' 108 C) (v 8 C) (by symm;rw[LH,h];decide)
  .have a:f∈iO false:=a;simp only[iO,Lf,Lq,Lo]at a;rcases a with rfl|rfl|rfl|rfl
   .exact XR (w' 109 C) (w' 120 C) (v 9 C) g
   .exact yB (b:=false) (w' 120 C) g (by symm;rw[LH,k];decide)
   .exact XR (w' 110 C) (w' 121 C) (v 10 C) d
   .exact gl (w' 121 C) d (by rw[j];decide)
 have:=kv (E:=J4 XV []) (xl _ _) C (Zx (val:=val)) a rfl c
  ⟨⟨w' 100 C,w' 101 C,w' 102 C,w' 103 C,w' 104 C,w' 105 C,w' 106 C,trivial,w' 108 C,trivial,trivial,w' 109 C,w' 110 C,trivial,trivial⟩,trivial⟩ (w:=w) ko
 have p:K (B val) [.agg [.sym 100,.sym 101,.sym 102,.sym 103,.sym 104,.sym 105,.sym 106,.bool false,.sym 108,.nilslice,.nilslice,.sym 109,.sym 110,.bool false]]=[.agg (R.l1++.slice none 0 0::.slice none 0 0::R.l2).toArray]:=by
  rw[K,K,Z4];simp only[K];rw[v 0 C,v 1 C,v 2 C,v 3 C,v 4 C,v 5 C,v 6 C,v 8 C,v 9 C,v 10 C];show[Value.agg #[R.at 0,R.at 1,R.at 2,R.at 3,R.at 4,R.at 5,R.at 6,Value.bool false,R.at 8,Value.slice none 0 0,Value.slice none 0 0,R.at 9,R.at 10,Value.bool false]]=[Value.agg #[R.at 0,R.at 1,R.at 2,R.at 3,R.at 4,R.at 5,R.at 6,Value.bool R.granted,R.at 8,Value.slice none 0 0,Value.slice none 0 0,R.at 9,R.at 10,Value.bool R.deep]];rw[n,l]
 rw[show zQ (YI val)=B val from rfl,p]at this;exact this.mono λe w2 hx=>⟨hx.1,hx.2.1⟩
theorem xJ{v1 v2:Ei}(h1:AtS w v1 R.up)(h2:AtS w v2 R.down):Calls prog 70 #[.agg (R.l1++v1::v2::R.l2).toArray] w λe w2=>Grown w w2/\e = .returned (.int .i64 (R.ZM:Nat)):=by
 obtain⟨p1,c1,e1⟩:=h1.slice;obtain⟨p2,c2,Q⟩:=h2.slice;have no:∀ {a b:Nat}{p:Prop},a<b->b<=a->p:=λh1 h2=>Ld h1 I
 have st:∀c,uY R c->eM c=R.ZM->Calls prog 70 #[.agg (R.l1++v1::v2::R.l2).toArray] w λe w2=>Grown w w2/\e = .returned (.int .i64 (R.ZM:Nat)):=by
  intro c hs he;rw[e1,Q,<- he];exact VT hR hs w
 have T:∀ {b:Bool},b≠false->b=true:=λh=>by simpa using h
 by_cases f:R.granted=false
 .have l:¬R.zero->R.ZM=6:=λh=>by unfold zy.ZM;rw[Y ⟨f,h⟩]
  by_cases u0:R.user=0
  .have d:=Lx u0;by_cases l1:qj R.up=0
   .have g:=Lx l1;by_cases l2:qj R.down=0
    .have i:=Lx l2;by_cases t:R.does.size=0
     .have r:=Lx t;by_cases u:R.at_.size=0
      .by_cases v:R.deep=true
       .exact st 5 ⟨C,f,λ_=>d,λ_ _=>g,λ_ _=>i,λ_ _=>r,λ_ _=>Lx u,λ_=>v,λh=>no h C,λh=>no h C⟩ (l λz=>by have:=z.2.2.2.2.2;rw[v]at this;cases this).symm
       .have m:R.zero:=⟨u0,l1,l2,t,u,by simpa using v⟩
        have hc:R.ZM=0:=by
         unfold zy.ZM
         have n:¬ ∃k∈R.els,63<k:=by
          rintro⟨k,y,_⟩
          have h1:=l1;have h2:=l2;unfold qj at h1 h2
          have:R.els.length=0:=by
           show(zI R.up++zI R.down).length=0;rw[Lm];omega
          rw[Ax this]at y;cases y
         rw[O (λh=>h.2 m),O I,O (by rintro(h|h);omega;exact n h),O I]
        rw[fq hR.up h1 l1,fq hR.down h2 l2,hc];exact ah hR f m w
      .exact st 4 ⟨C,f,λ_=>d,λ_ _=>g,λ_ _=>i,λ_ _=>r,λ_ _=>LC u,(λh=>by cases h),λh=>no h C,λh=>no h C⟩ (l λz=>u z.2.2.2.2.1).symm
     .exact st 3 ⟨C,f,λ_=>d,λ_ _=>g,λ_ _=>i,λ_ _=>LC t,λh=>no h C,(λh=>by cases h),λh=>no h C,λh=>no h C⟩ (l λz=>t z.2.2.2.1).symm
    .exact st 2 ⟨C,f,λ_=>d,λ_ _=>g,λ_ _=>LC l2,λh=>no h C,λh=>no h C,(λh=>by cases h),λh=>no h C,λh=>no h C⟩ (l λz=>l2 z.2.2.1).symm
   .exact st 1 ⟨C,f,λ_=>d,λ_ _=>LC l1,λh=>no h C,λh=>no h C,λh=>no h C,(λh=>by cases h),λh=>no h C,λh=>no h C⟩ (l λz=>l1 z.2.1).symm
  .exact st 0 ⟨C,f,λ_=>LC u0,λh=>no h C,λh=>no h C,λh=>no h C,λh=>no h C,(λh=>by cases h),λh=>no h C,λh=>no h C⟩ (l λz=>u0 z.1).symm
 .have j:=T f;have m:¬(R.granted=false/\¬R.zero):=λh=>f h.1;by_cases x:63<qj R.up
  .refine st 6 ⟨C,j,λh=>no h C,λ_ h=>no h C,λ_ h=>no h C,λ_ h=>no h C,λ_ h=>no h C,(λh=>by cases h),λ_=>Lx x,λh=>no h C⟩ ?_;unfold zy.ZM;rw[O m,Y (.inl x)];rfl
  .by_cases H:63<qj R.down
   .refine st 7 ⟨C,j,λh=>no h C,λ_ h=>no h C,λ_ h=>no h C,λ_ h=>no h C,λ_ h=>no h C,(λh=>by cases h),λ_=>LC x,λ_=>Lx H⟩ ?_;unfold zy.ZM;rw[O m,Y (.inr H)];rfl
   .have q1:=yR hR.up;have q2:=yR hR.down;obtain⟨x1,P⟩:=kP hR.up h1;obtain⟨x2,k2⟩:=kP hR.down h2;exact aY hR j I I P k2
end
end CH
namespace KP
def vk:(M.nil:M Nat).get n=none:=M.get_nil n
def Z0{f:Nat->Nat->Option G}{v:G}(h:inRound i f=some v):∃r o,r<24/\o<200/\i=1000+200*r+o/\f r o=some v:=by
 unfold inRound at h;obtain⟨h1,h⟩:=zh h;simp only[qg]at h;obtain⟨h2,h⟩:=zh h;rw[zK,Lk]at h1;rw[zW,Lk]at h2;have h2:(i-1000) / 200<24:=h2;exact⟨(i-1000) / 200,(i-1000) % 200,h2,Af _ C,I,h⟩
def jf{a:G}(h:qZ a=some i):a = .sym i:=by
 cases a<;>first|(cases h;done)|skip
 cases h;rfl
def eY{t:M Nat}{j:Nat}{v:G}(h:lT t i j=some v):∃r o a k,r<24/\o<200/\a<200/\i=1000+200*r+o/\j=1000+200*r+a/\t.get (o*256+a)=some k/\v=Jj r k:=by
 unfold lT at h;obtain⟨r,o,h1,h2,h3,h⟩:=Z0 h;obtain⟨r',a,g,f,e,h⟩:=Z0 h;obtain⟨d,b⟩:=zh h;have d:r=r':=eq_of_beq_eq_true d
 cases c:t.get (Nat.add (Nat.mul o 256) a) with
 | none=>rw[c]at b;cases b
 | some k=>
  rw[c]at b;cases b;exact⟨r,o,a,k,h1,h2,f,h3,by rw[d];exact e,c,rfl⟩
def Ze(ws:Ek)(rs:El)(id:Nat):Value:=if id<1000 then rs id else .int .u64 ((word ws ((id-1000) / 200) ((id-1000) % 200):Nat):Int)
abbrev zfL(ws:Ek):Nat->Value:=Ze ws λ_=>.int .u8 0
section
variable[Unk]{ws:Ek}{rs:El}
def cD{o:Nat}(a:r<25)(b:o<200):WF (BN 6000 (Ze ws rs)) (.sym (1000+200*r+o)):=jd I I
def Ye{o:Nat}(a:r<25)(b:o<200):J (BN 6000 (Ze ws rs)) (.sym (1000+200*r+o)) = .int .u64 (word ws r o:Nat):=by
 refine kp I I ?_ rfl;unfold Ze;rw[O I,show(1000+200*r+o-1000) / 200=r by omega,show(1000+200*r+o-1000) % 200=o by omega]
def nW(a:r<24)(b:k<225):WF (BN 6000 (Ze ws rs)) (Jj r k)/\J (BN 6000 (Ze ws rs)) (Jj r k) = .int .u64 (word ws r k:Nat):=by
 rcases LD k 200 with h|h
 .exact⟨cD I h,Ye I h⟩
 .obtain⟨p,rfl⟩:∃p,k=200+p:=⟨k-200,I⟩
  have e:Jj r (200+p) = .sym (1000+200*(r+1)+p):=congrArg G.sym (show 1000+200*r+(200+p)=1000+200*(r+1)+p by omega);rw[e];refine⟨cD I I,?_⟩;rw[Ye I I,DU ws r p I]
variable(hw:∀i,ws i<W)
include hw
theorem uG{op:BinOp}{o z:Nat}(d:r<24)(b:o<200)(a:n<200)(e:k<225)(c:z=word ws r k)(h:YV op .u64 (word ws r o:Nat) .u64 (word ws r n:Nat)=some (.int .u64 (z:Nat))) :
  Qg P (BN 6000 (Ze ws rs)) op (.sym (1000+200*r+o)) (.sym (1000+200*r+n)) (Jj r k):=by
 obtain⟨g1,f⟩:=nW (ws:=ws) d e;refine j8 (tabs:=[]) (cD I b) (cD I a) g1 (Ye I b) (Ye I a) h ?_;rw[f,c];rfl
theorem Gs:∀op a b r,zea (iE DK) (iE Ru) (M.ofList rounds) op a b=some r->Qg P (BN 6000 (Ze ws rs)) op a b r:=by
 intro op a b v h;unfold zea at h
 cases ha:qZ a with
 | none=>rw[ha]at h;cases h
 | some i=>
  rw[ha,ze]at h;have ha:=jf ha;subst ha;simp only[qg]at h
  have table:∀(l:List (Nat×Nat×Nat)) {o c k:Nat},(∀e∈l,e.2.1<200)->c<200->(iE l).get (o*256+c)=some k->(o,c,k)∈l:=by
   intro l o c k hl H Q;rcases ej l .nil Q with⟨e,he,p,g⟩|h
   .have:=hl e he;have h1:e.1=o:=by omega
    have h2:e.2.1=c:=by omega
    rw[<- h1,<- h2,<- g];exact he
   .rw[vk]at h;cases h
  cases op<;>first|(cases h;done)|skip
  case and=>
   have h:Z (qZ b) none (λj=>lT (iE Ru) i j)=some v:=h
   cases hb:qZ b with
   | none=>rw[hb]at h;cases h
   | some j=>
    rw[hb,ze]at h;have hb:=jf hb;subst hb;obtain⟨r,o,c,k,h1,h2,h3,rfl,rfl,d,rfl⟩:=eY h;have hm:=table Ru (λe he=>(Dz ws 0 e he).2.2) h3 d;obtain⟨p,g,_⟩:=Dz (st ws r) (rounds.getD r 0) _ hm;exact uG hw h1 h2 h3 g p.symm (CU (J6 hw r o) (J6 hw r c))
  case xor=>
   have h:Z (qZ b) (Z (wG b) none λn=>inRound i λr o=>ifB (Nat.beq o 155) (Z ((M.ofList rounds).get r) none λm=>ifB (Nat.beq n m) (some (Jj r 200)) none) none) (λj=>lT (iE DK) i j)=some v:=h
   cases hb:qZ b with
   | none=>
    rw[hb,zn]at h
    cases hn:wG b with
    | none=>rw[hn]at h;cases h
    | some n=>
     rw[hn,ze]at h;obtain⟨r,o,h1,h2,hi,x⟩:=Z0 h;obtain⟨h3,w⟩:=zh x;clear h x;have h3:o=155:=eq_of_beq_eq_true h3;subst h3;subst hi;rw[M.qy]at w;have f:r<rounds.length:=h1;rw[Ly f,ze]at w;obtain⟨d,T⟩:=zh w;have d:n=rounds[r]:=eq_of_beq_eq_true d;cases T
     have u:b = .int .u64 (.ofNat n):=by
      cases b<;>first|(cases hn;done)|skip
      rename_i y z;cases y<;>first|(cases hn;done)|skip
      cases z<;>first|(cases hn;done)|skip
      cases hn;rfl
     subst u;have hc:rounds.getD r 0=n:=by rw[Aq,Ly f,d];rfl
     have t:n<W:=by rw[<- hc];exact Mj r
     obtain⟨g1,g2⟩:=nW (ws:=ws) h1 (k:=200) C;refine j8 (tabs:=[]) (cD I h2) trivial g1 (Ye I h2) (show J _ (.int .u64 (.ofNat n)) = .int .u64 (n:Nat) from rfl) (dy (J6 hw r 155) t) ?_;rw[g2]
     have:word ws r 200=word ws r 155 ^^^ n:=by
      unfold word;rw[show 200=200+0 from rfl,zf0,zfY,hc];unfold round;rw[Y rfl]
     rw[this]
     rfl
   | some j=>
    rw[hb,ze]at h;have hb:=jf hb;subst hb;obtain⟨r,o,c,k,h1,h2,h3,rfl,rfl,d,rfl⟩:=eY h;have hm:=table DK (λe he=>(cZ ws 0 e he).2.2) h3 d;obtain⟨p,g,_⟩:=cZ (st ws r) (rounds.getD r 0) _ hm;exact uG hw h1 h2 h3 g p.symm (dy (J6 hw r o) (J6 hw r c))
theorem Pr:∀op a r,gUn (BE FU) op a=some r->bK P (BN 6000 (Ze ws rs)) op a r:=by
 intro op a v h;unfold gUn at h;cases op<;>first|(cases h;done)|skip
 have h:Z (qZ a) none (λi=>inRound i λr o=>Z ((BE FU).get o) none λk=>some (Jj r k))=some v:=h
 cases ha:qZ a with
 | none=>rw[ha]at h;cases h
 | some i=>
  rw[ha,ze]at h;have ha:=jf ha;subst ha;obtain⟨r,o,h1,h2,hi,h3⟩:=Z0 h;clear h;subst hi
  cases b:(BE FU).get o with
  | none=>rw[b]at h3;cases h3
  | some k=>
   rw[b,ze]at h3;cases h3;rcases lh FU .nil b with⟨e,he,rfl,rfl⟩|hx
   .obtain⟨g,f⟩:=Tg (st ws r) (rounds.getD r 0) e he;obtain⟨g1,d⟩:=nW (ws:=ws) h1 f;refine⟨cD I h2,g1,λw=>?_⟩
    have c:xW .xor (.int .u64 (.ofNat (word ws r e.1)))=some (.int .u64 ((sS (word ws r e.1):Nat):Int)):=by
     show some (unXor .u64 (.ofNat (word ws r e.1)))=_;unfold unXor;rw[mkI,show QR .u64 (.ofNat (word ws r e.1))=word ws r e.1 from Jx (J6 hw r e.1)];congr 2;exact WK (kx (J6 hw r e.1) C)
    obtain⟨q1,_⟩:=UX (P:=P) (β:=BN 6000 (Ze ws rs)) (w:=w) c;rw[Ye I h2,d];have:word ws r e.2=sS (word ws r e.1):=g;rw[this];exact q1
   .rw[vk]at hx;cases hx
end
def perm(ws:Ek):Nat->Nat:=st ws 24
def jL:zP tabs=true:=U
section
variable[Unk]{ws:Ek}{rs:El}(hw:∀i,ws i<W)
include hw
theorem xj(w:P=prog){T:List (Nat×X)}:∀f args r,Ps 277 (iE Fx) f args=some r->Q3 P T (BN 6000 (Ze ws rs)) f args r:=by
 subst w;intro f args v h;unfold Ps at h;split at h
 .rename_i a b;obtain⟨h1,h2⟩:=zh h;have h1:f=277:=eq_of_beq_eq_true h1;clear h;subst h1
  cases ha:qZ a with
  | none=>rw[ha]at h2;cases h2
  | some i=>
   rw[ha,ze]at h2;have ha:=jf ha;subst ha
   cases hn:zce b with
   | none=>rw[hn]at h2;cases h2
   | some k=>
    rw[hn,ze]at h2;obtain⟨h3,j⟩:=zh h2;have h3:k<64:=by rw[zW,Lk]at h3;exact h3
    obtain⟨r,o,g1,l,hi,c⟩:=Z0 j;clear h2 j;subst hi
    cases d:(iE Fx).get (Nat.add (Nat.mul o 256) k) with
    | none=>rw[d]at c;cases c
    | some m=>
     rw[d,ze]at c;cases c
     have g:b = .int .i64 (.ofNat k):=by
      cases b<;>first|(cases hn;done)|skip
      rename_i u z;cases u<;>first|(cases hn;done)|skip
      cases z<;>first|(cases hn;done)|skip
      cases hn;rfl
     subst g;rcases ej Fx .nil (n:=o*256+k) d with⟨e,he,e1,Q⟩|hx
     .obtain⟨q1,q2,q3⟩:=SH (st ws r) (rounds.getD r 0) e he;have y:e.1=o:=by omega
      have x:e.2.1=k:=by omega
      rw[Q]at q1 q2;obtain⟨p,w2⟩:=nW (ws:=ws) g1 q2;refine⟨⟨cD I l,trivial,trivial⟩,p,λt _=>?_⟩
      have H:(K (BN 6000 (Ze ws rs)) [.sym (1000+200*r+o),.int .i64 (.ofNat k)]).toArray = #[.int .u64 (word ws r o:Nat),.int .i64 (k:Nat)]:=by
       simp only[K];rw[Ye I l];rfl
      rw[H,w2];have hq:word ws r m=rotl (word ws r o) k:=by rw[<- y,<- x];exact q1
      rw[hq];exact Ma (J6 hw r o) h3 t
     .rw[vk]at hx;cases hx
 .cases h
theorem eU:zJ E (BN 6000 (Ze ws rs)):=by
 intro f a;have a:f∈facts:=a;unfold facts at a;simp only[Lf,Lq,Lo]at a;rcases a with rfl|rfl|rfl
 .exact Gs hw
 .exact Pr hw
 .exact xj hw rfl
theorem FL(h1:chk=true):yW prog tabs (BN 6000 (Ze ws rs)) 228 [.ptr 6000 0] 6001 [(6000,kJ 0)] [(6000,kJ 24)] (.tuple []) 6049:=by
 have h:=h1;unfold chk yT at h;simp only[zl,Le]at h
 exact Vn (E:=E) (QA yQ JL (λp hp=>by
  have hp:p∈[((277:Eu),Spec.fact)]:=hp;rw[Lu]at hp;subst hp
  trivial)) (eU hw) jL h.2.2.2
end
def qv(ws:Ek):List Value:=r25.map λi=>.int .u64 (ws i:Nat)
def yw[Unk]{ws:Ek}{g:Inj}(hle:(BN 6000 (Ze ws rs)).le g)(a:r<25):WFs g (r25.map λi=>Jj r i)/\K g (r25.map λi=>Jj r i)=qv (st ws r):=by
 have key:∀i,i<25->WF g (Jj r i)/\J g (Jj r i) = .int .u64 (st ws r i:Nat):=by
  intro i hi;have e:Jj r i = .sym (1000+200*r+i):=rfl;rw[e];obtain⟨c,b⟩:=WF.mono hle _ (cD (ws:=ws) (rs:=rs) a (o:=i) I);refine⟨c,?_⟩;rw[b,Ye a I];unfold word;rw[vX _ _ hi]
 constructor
 .rw[qb];intro v hv;obtain⟨i,hi,rfl⟩:=Lv.1 hv;exact(key i (Lr.1 hi)).1
 .rw[zC,LZ];unfold qv;apply Ab;intro i hi;exact(key i (Lr.1 hi)).2
def sB{ws:Ek}(hw:∀i,ws i<W)(d:zx prog w x 300 (qv ws))(b:∀p∈tabs,p.1≠x.1)(h:@ql unkK prog tabs w) :
  Calls prog 228 #[.pointer (some ⟨x.1,x.2.1,none⟩)] w λe w2=>e = .returned (.tuple #[])/\zx prog w2 x 300 (qv (perm ws))/\(∀k,k<w.heap.size->k≠x.1->w2.heap[k]?=w.heap[k]?)/\w.heap.size<=w2.heap.size/\w2.tape=w.tape/\w2.os=w.os/\w2.output=w.output:=by
 letI:=unkK;let σ:=Zm 6000 (zfL ws);let pl:Nat->Nat×Nat×Nat:=λ_=>x
 let β:=qG σ 6000 1 pl
 let H:Heap:=jD E 6001 [(6000,kJ 0)]
 have hle:(BN 6000 (zfL ws)).le β:=kl C ju;have self:β 6000=some x:=qH C C;have n:∀p∈[((6000:Nat),kJ 0)],6000<=p.1/\p.1<6000+1:=λp hp=>by rw[Lu]at hp;subst hp;exact⟨C,C⟩
 obtain⟨o1,o2⟩:=yw (ws:=ws) hle (r:=0) C
 have hR:Rel prog β H w:=Uj (E:=E) (m:=1) C ju jL h n (λp hp=>by
  rw[Lu]at hp;subst hp
  exact zx.blk (l:=r25.map λi=>Jj 0 i) rfl o1 (by rw[o2];exact d)) (λp hp q hq _=>by rw[Lu]at hp hq;rw[hp,hq]) (λp _ t h=>b t h)
 have a:∀id,H.blk.get id=if 6000=id then some (kJ 0) else(jj tabs).get id:=λid=>by
  show(M.set (jj tabs) 6000 (kJ 0)).get id=_;rw[M.zN]
 have hp:=FL hw kp1 β H w hle hR (λg P=>by show qG σ 6000 1 pl g=_;rw[Zz I];exact Y P) (λp hp=>by
  obtain⟨c1,_,c3⟩:=qu jL p hp;refine⟨c1,?_⟩;rw[a,O I]
  exact c3) rfl (λp hp=>by
  rw[Lu]at hp;subst hp
  rw[a,Y rfl]) ⟨by show(β 6000).isSome=true;rw[self];rfl,trivial⟩
 have ea:(K β [.ptr 6000 0]).toArray = #[.pointer (some ⟨x.1,x.2.1,none⟩)]:=by
  simp[K,J,Inj.addr,Inj.blk,Inj.sh,self]
 rw[ea]at hp;refine hp.mono λe w2 hx=>?_;obtain⟨v,rfl,_,u,hE⟩:=hx;refine⟨rfl,?_,λc hc j=>hE.frame c hc λz=>?_,hE.size,hE.tape,hE.os,hE.output⟩
 .have T:v 6000=some x:=(hE.old 6000 (by show 6000<6001;omega)).trans self
  have f:(ZV H [(6000,kJ 0)] [(6000,kJ 24)] 6049).blk.get 6000=some (kJ 24):=by
   show(M.set (Yy [(6000,kJ 0)] H.blk) 6000 (kJ 24)).get 6000=_;rw[M.zN,Y rfl]
  have:=zx.of (l:=r25.map λi=>Jj 24 i) rfl (u.blk 6000 _ _ f T);rw[(yw (ws:=ws) (hle.trans (hE.le hR.bnd)) (r:=24) C).2]at this;exact this
 .obtain⟨id,c',y,h1,h2,h3,Q⟩:=z;rw[a]at h2;split at h2
  .rename_i e;subst e;rw[self]at h3;cases h3;exact j Q.symm
  .have:=(qu jL _ (kK _ _ _ h2)).1;omega
end KP
noncomputable section
namespace KS
def dr(v:G):Option Nat:=match v with|.int .u64 (.ofNat n)=>some n|_=>none
def og(v:G):Option Nat:=match v with|.int .i64 (.ofNat n)=>some n|_=>none
def ziV(n t:Nat):Nat:=Nat.add (ifB (Nat.beq t n) 6 0) (ifB (Nat.beq t 135) 128 0)
def upN(n m:Nat):Nat->Nat:=Nat.rec (motive:=λ_=>Nat->Nat) (λ_=>0) (λ_ ih j=>Nat.add (ziV n j) (Nat.mul 256 (ih (Nat.succ j)))) m
def WN(n j:Nat):Nat:=Nat.mul (upN n (Nat.sub 7 (Nat.mod j 8)) (Nat.succ j)) 256
def bm(n i:Nat):Nat:=upN n 8 (Nat.mul 8 i)
def last(n j:Nat):Bool:=ifB (Nat.beq (Nat.mod j 8) 7) true (Nat.ble n (Nat.succ j))
def gS(n:Nat)(op:BinOp)(a b:G):Option G:=
 match op with
 | .or=>Z (KP.qZ b) none λi=>ifB (is 2200 136 i) (frc (Nat.sub i 2200) λj=>Z (KP.qZ a) (Z (dr a) none λm=>ifB (L (last n j) (Nat.beq m (WN n j))) (some (s 2600 j)) none) λi'=>ifB (L (kV (last n j)) (Nat.beq i' (Nat.add 2400 j))) (some (s 2600 j)) none) none
 | .shl=>Z (KP.qZ a) none λi=>ifB (L (is 2601 135 i) (u64z b 8)) (some (s 2400 (Nat.sub i 2601))) none
 | .xor=>ifB (u64z a 0) (Z (KP.qZ b) none λj=>ifB (L (is 2600 136 j) (Nat.beq (Nat.mod (Nat.sub j 2600) 8) 0)) (some (s 2800 (Nat.div (Nat.sub j 2600) 8))) none) none
 | .shr=>Z (KP.qZ a) none λi=>Z (og b) none λm=>ifB (L (is 3000 4 i) (L (Nat.beq (Nat.mod m 8) 0) (Nat.blt m 64))) (some (s 3200 (Nat.add (Nat.mul 8 (Nat.sub i 3000)) (Nat.div m 8)))) none
 | _=>none
def wIn(n:Nat):List G:=(List.range 25).map λi=>ifB (Nat.blt (Nat.mul 8 i) n) (s 2800 i) (.int .u64 (.ofNat (bm n i)))
def vg:List G:=(List.range 25).map λi=>s 3000 i
def Co(n:Nat):Fact:=.memoG 228 6000 [⟨6000,6001,6000,0,0,0⟩] [.ptr 6000 0] 6001 [(6000,.cells 300 25 (M.ofList (wIn n)))] [(6000,.cells 300 25 (M.ofList vg))] (.tuple []) 6049
def facts(n:Nat):List Fact:=.binF (gS n)::Co n::((List.range n).map KA.P2++(List.range 32).map λi=>.conv .u8 (s 3200 i) (s 3300 i))
def E(n:Nat):Env:=Qm prog [(228,.fact)] (facts n) KP.tabs
def Kt(n:Nat):List G:=(List.range n).map λj=>s 2000 j
def rD(n:Nat):X:=.cells 5 n (M.ofList (Kt n))
def out:G:=.agg ((List.range 32).map λi=>s 3300 i)
def chk(n:Nat):Bool:=Z (qL (E n) (kh (E n) 1000000) 82 [.slice 6000 0 n n false] (jD (E n) 6001 [(6000,rD n)])) false λp=>L (qF p.1 out) (Z (p.2.blk.get 6000) false λbl=>Q0 bl (rD n))
def Ha(l:Eb):Bool:=List.rec true (λn _ ih=>ifB (chk n) ih false) l
end KS
end
def zi2:KS.chk 6=true:=U
noncomputable section
namespace KT
def c8(n:Nat):G:=.int .u8 (.ofNat n)
def cT:List Nat:=[114,101,99,111,114,100]
def Xd:List Nat:=[116,114,97,105,108]
def fU:List G:=(List.range 32).map λi=>s 2500 i
def oS(m:Nat):List G:=(List.range m).map λj=>s 2000 j
def YP(m:Nat):List G:=zX [c8 6,c8 114,c8 101,c8 99,c8 111,c8 114,c8 100,c8 32] (zX fU (c8 m::oS m))
def kF:List G:=(List.range 32).map λi=>s 3300 i
def Iz(f n:Nat)(l:List G):Fact:=.memoG f 6000 [⟨6000,6001,6000,0,0,0⟩] [.slice 6000 0 n n false] 6001 [(6000,.cells 5 n (M.ofList l))] [(6000,.cells 5 n (M.ofList l))] (.agg kF) 6001
def E(f n:Nat)(l:List G)(T:List (Nat×X)):Env:=Qm prog [(82,.fact),(71,.fact)] [Iz f n l] T
def eW(m:Nat):List G:=[.slice 6001 0 32 32 true,.slice 6002 0 m m false]
def rows(t m:Nat):List (Nat×X):=[(6000,.cells 51 2 (M.ofList (eW m))),(6001,.cells t 32 (M.ofList fU)),(6002,.cells 5 m (M.ofList (oS m)))]
def Hb(f g t:Nat)(T:List (Nat×X))(m:Nat):Bool:=Z (qL (E g (Nat.add 41 m) (YP m) T) (kh (E g (Nat.add 41 m) (YP m) T) 1000000) f [.str cT,.slice 6000 0 2 2 true] (jD (E g (Nat.add 41 m) (YP m) T) 6003 (rows t m))) false λp=>qF p.1 (.agg kF)
def gJ(f g t:Nat)(T:List (Nat×X))(l:Eb):Bool:=List.rec true (λm _ ih=>ifB (Hb f g t T m) ih false) l
def sH:Nat:=5+116*256+114*65536+97*16777216+105*4294967296+108*1099511627776
def zcQ(f:Nat):Fact:=.memoG f 6000 [⟨6000,6001,6000,0,0,0⟩] [.slice 6000 0 6 6 false] 6001 [(6000,.pack 5 6 sH)] [(6000,.pack 5 6 sH)] (.agg kF) 6001
def ET(f:Nat)(T:List (Nat×X)):Env:=Qm prog [(82,.fact),(71,.fact)] [zcQ f] T
def zet(f g:Nat)(T:List (Nat×X)):Bool:=Z (qL (ET g T) (kh (ET g T) 1000000) f [.str Xd,.nilslice] (jt (ET g T) 6000)) false λp=>qF p.1 (.agg kF)
end KT
end
def ziZ:KT.zet 31 82 KP.tabs=true:=U
noncomputable section
namespace AP
def specs:List (FuncId×Spec):=[(30,.fact),(31,.fact),(32,.fact)]
def nf(i:Nat):G:=.sym (Nat.add 2000 i)
def of(j i:Nat):G:=.sym (Nat.add (Nat.add 2100 (Nat.mul 20 j)) i)
def ol(j i:Nat):G:=.sym (Nat.add (Nat.add 72 (Nat.mul 2 j)) i)
def ZL(p q:Nat):G:=.agg [nf 0,nf 1,nf 2,nf 3,nf 4,nf 5,nf 6,nf 7,nf 8,Cs 60 70 p,Cs 61 71 q,nf 9,nf 10,nf 11]
def jz(p q:Nat):List (Nat×X):=zX (iI 60 70 p) (iI 61 71 q)
def Qh(k:Nat):List G:=(List.range k).flatMap λj=>[of j 0,of j 1,of j 2,of j 3,of j 4,of j 5,of j 6,of j 7,of j 8,ol j 0,ol j 1,of j 9,of j 10,of j 11]
def ZJ(k:Nat):List G:=(List.range (Nat.mul 32 (Nat.succ k))).map λi=>.sym (Nat.add 2500 i)
def Qk(k:Nat):G:=jY k .nilslice λ_=>.slice 6001 0 k k false
def rows(k:Nat):List (Nat×X):=
 (6000,.cells 96 2 (M.ofList [Qk k,.slice 6002 0 (Nat.succ k) (Nat.succ k) false]))::zX (jY k [] λ_=>[(6001,.cells 42 (Nat.mul 14 k) (M.ofList (Qh k)))]) [(6002,.cells 29 (Nat.mul 32 (Nat.succ k)) (M.ofList (ZJ k)))]
def ZR(k c:Nat):List Fact:=
 .eq 1 (nf 0) (qc (Nat.succ k)) (Nat.blt 0 c)::jY c [] λc=>.bin .lss (nf 1) (qc 0) (qx (Nat.beq c 0))::jY c [] λc=>[.bin .gtr (nf 1) (qc 2147483647) (.bool false),.bin .lss (nf 6) (qc 0) (.bool false),.bin .gtr (nf 6) (qc 30000) (qx (Nat.beq c 0))]
def Kq(p q:Nat)(v:G):Fact:=.call 30 [ZL p q] v
def kO(p q n:Nat):List Fact:=jY p [] λ_=>[.eq 2 (.sym q) (.str []) false,.len (.sym q) (.sym n),.bin .gtr (.sym n) (.int .i64 (.ofNat 100000000)) (.bool false)]
def ways(j : Nat) : List (List Fact) :=
  [[.eq 2 (of j 2) (nf 2) false], [.eq 2 (of j 2) (nf 2) true, .bin .gtr (of j 1) (nf 1) (.bool false), .eq 1 (of j 1) (nf 1) false],
   [.eq 2 (of j 2) (nf 2) true, .bin .gtr (of j 1) (nf 1) (.bool false), .eq 1 (of j 1) (nf 1) true, .eq 1 (of j 6) (nf 6) true]]
def bars(j:Nat):List (List Fact):=
 [[.eq 2 (of j 2) (nf 2) true,.bin .gtr (of j 1) (nf 1) (.bool true)],[.eq 2 (of j 2) (nf 2) true,.bin .gtr (of j 1) (nf 1) (.bool false),.eq 1 (of j 1) (nf 1) true,.eq 1 (of j 6) (nf 6) false]]
def Kz(j:Nat):List (List (List Fact)):=(List.range j).map ways
def zel(p q:Nat):Fact:=.make 32 [ZL p q] 6000 1 [(6000,.text 5 (.sym 2050))] (.osl 6000 (.sym 2050))
def ZX(k:Nat):List G:=(List.range 32).map λi=>.sym (Nat.add (Nat.add 2500 (Nat.mul 32 k)) i)
def gz:List G:=(List.range 32).map λi=>.sym (Nat.add 3300 i)
def ll(k:Nat):List (Nat×X):=[(6000,.cells 51 2 (M.ofList [.slice 6001 0 32 32 true,.osl 6002 (.sym 2050)])),(6001,.cells 29 32 (M.ofList (ZX k))),(6002,.text 5 (.sym 2050))]
def Sv(k:Nat):Fact:=.memoG 31 6000 [⟨6000,6001,6000,1,0,0⟩,⟨6001,6002,6001,1,0,1⟩,⟨6002,6003,6002,1,0,2⟩] [.str KT.cT,.slice 6000 0 2 2 true] 6003 (ll k) [] (.agg gz) 6003
def E(F:List Fact)(A:List (List (List Fact)))(p q:Nat):Env:=(Qm prog specs F (zX (jz p q) KP.tabs)).withAlts 12 58 A
def run(F:List Fact)(A:List (List (List Fact)))(k p q:Nat)(ok:G->Heap->Bool):Bool:=
 Z (qL (E F A p q) (kh (E F A p q) 1000000) 12 [.ptr 6000 0,ZL p q] (jD (E F A p q) 6003 (rows k))) false λr=>ok r.1 r.2
def kept(k:Nat)(H:Heap):Bool:=List.rec true (λp _ ih=>ifB (Z (H.blk.get p.1) false λb=>Q0 b p.2) ih false) (rows k)
def cj(k:Nat)(e:G)(v:G)(H:Heap):Bool:=L (qF v (.tuple [.nilp,e])) (kept k H)
def JO(H:Heap)(b t:Nat)(l:List G):Bool:=Z (H.row b) false λr=>L (Nat.ble 6003 b) (L (Nat.beq r.t t) (L (Nat.ble (je l 0) r.n) (Z (M.Xu (je l 0) r.c 0) false λcs=>yh cs l)))
def tI(v:G)(n:Nat)(f:Nat->Bool):Bool:=match v with|.slice b o m c _=>L (Nat.beq o 0) (L (Nat.beq m n) (L (Nat.beq c n) (f b)))|_=>false
def cV(v:G)(p q:Nat)(H:Heap):Bool:=jY p (qF v .nilslice) λ_=>match v with|.osl b s=>L (Nat.ble 6003 b) (L (qF s (.sym q)) (Z (H.blk.get b) false λx=>Q0 x (.ints 3 (.sym q))))|_=>false
def cg(k p q : Nat)(v : G)(H : Heap) : Bool :=
  match v with
  | .tuple l => lC l false λa m => L (yh m [qc 0]) (L (kept k H) (match a with
    | .ptr b o => L (Nat.beq o 0) (Z (H.row b) false λr => Z (r.c.get 0) false λs => Z (r.c.get 1) false λh => tI s (Nat.succ k) λsb => tI h (Nat.add k 2) λhb =>
        L (JO H b 96 [s, h]) (L (JO H hb 29 (zX (ZJ k) gz)) (Z (H.row sb) false λrr => Z (rr.c.get (Nat.add (Nat.mul 14 k) 9)) false λu => Z (rr.c.get (Nat.add (Nat.mul 14 k) 10)) false λd =>
          L (cV u p 70 H) (L (cV d q 71 H) (JO H sb 42 (zX (Qh k) [nf 0, nf 1, nf 2, nf 3, nf 4, nf 5, nf 6, nf 7, nf 8, u, d, nf 9, nf 10, nf 11]))))))
    | _ => false))
  | _ => false
def Ko(k c p q:Nat):Bool:=run (ZR k c) [] k p q (cj k (qc 2))
def gM(k p q:Nat):Bool:=run (zX (ZR k 3) [Kq p q (.sym 2060),.eq 1 (.sym 2060) (qc 0) false]) [] k p q (cj k (.sym 2060))
def gO(k p q j:Nat)(f:List Fact):Bool:=run (zX (ZR k 3) (Kq p q (qc 0)::f)) (Kz j) k p q (cj k (qc 7))
def JS(k p q:Nat):Bool:=run (zX (ZR k 3) (Kq p q (qc 0)::zel p q::Sv k::zX (kO p 70 2070) (kO q 71 2071))) (Kz k) k p q (cg k p q)
def ZO(f:Nat->Nat->Bool):Bool:=L (f 0 0) (L (f 0 1) (L (f 1 0) (f 1 1)))
def JU(k:Nat):Bool:=ZO λp q=>L (Ko k 0 p q) (L (Ko k 1 p q) (L (Ko k 2 p q) (L (gM k p q) (JS k p q))))
def Yz(k:Nat):Bool:=ZO λp q=>J3 (λj=>J3 (λi=>Z (yG i (bars j)) false λf=>gO k p q j f) [0,1]) (List.range k)
end AP
namespace AR
open AP(nf of ZL jz Qh ZR ways bars Kz kept kO ZO)
def specs:List (FuncId×Spec):=[(68,.fact),(69,.fact),(70,.fact)]
def rows(k:Nat):List (Nat×X):=jY k [] λ_=>[(6000,.cells 86 (Nat.mul 14 k) (M.ofList (Qh k)))]
def arg(k:Nat):G:=jY k .nilslice λ_=>.slice 6000 0 k k false
def nK(c:Nat):List Fact:=.call 68 [nf 2] (qx (Nat.blt 0 c))::jY c [] λc=>.bin .lss (nf 3) (qc 1) (qx (Nat.beq c 0))::jY c [] λc=>.call 68 [nf 4] (qx (Nat.blt 0 c))::jY c [] λc=>[.call 69 [nf 5] (qx (Nat.blt 0 c))]
def Q9(p q:Nat)(v:G):Fact:=.call 70 [ZL p q] v
def E(F:List Fact)(A:List (List (List Fact)))(p q:Nat):Env:=(Qm prog specs F (jz p q)).withAlts 26 62 A
def run(F:List Fact)(A:List (List (List Fact)))(k p q:Nat)(v:G):Bool:=
 Z (qL (E F A p q) (kh (E F A p q) 1000000) 26 [arg k,ZL p q] (jD (E F A p q) 6001 (rows k))) false λr=>L (qF r.1 v) (List.rec true (λp _ ih=>ifB (Z (r.2.blk.get p.1) false λb=>Q0 b p.2) ih false) (rows k))
def SK(c:Nat):Nat:=Z (yG c [9,1,9,6]) 0 λn=>n
def Ko(k c p q:Nat):Bool:=run (ZR k c) [] k p q (qc 2)
def zcr(k c p q:Nat):Bool:=run (zX (ZR k 3) (nK c)) [] k p q (qc (SK c))
def gM(k p q:Nat):Bool:=run (zX (ZR k 3) (zX (nK 4) [Q9 p q (.sym 2060),.eq 1 (.sym 2060) (qc 0) false])) [] k p q (.sym 2060)
def gO(k p q j:Nat)(f:List Fact):Bool:=run (zX (ZR k 3) (zX (nK 4) (Q9 p q (qc 0)::f))) (Kz j) k p q (qc 7)
def JS(k p q:Nat):Bool:=run (zX (ZR k 3) (zX (nK 4) [Q9 p q (qc 0)])) (Kz k) k p q (qc 0)
def JU(k:Nat):Bool:=ZO λp q=>L (J3 (λc=>Ko k c p q) [0,1,2]) (L (J3 (λc=>zcr k c p q) [0,1,2,3]) (L (gM k p q) (JS k p q)))
def Yz(k:Nat):Bool:=ZO λp q=>J3 (λj=>J3 (λi=>Z (yG i (bars j)) false λf=>gO k p q j f) [0,1]) (List.range k)
end AR
end
noncomputable section
namespace RH
open AP(of ol Qh)
def hd(j:Nat):List G:=(List.range 32).map λi=>.sym (Nat.add (Nat.add 2500 (Nat.mul 32 j)) i)
end RH
end
noncomputable section
namespace TC
open AP(of ol nf ZL Qh ZJ Qk rows kept kO cV ZX gz JO tI ZO)
def E(F:List Fact)(T:List (Nat×X)):Env:=Qm prog [(31,.fact),(65,.fact)] F T
def run(F:List Fact)(T:List (Nat×X))(f k:Nat)(args:List G)(ok:G->Heap->Bool):Bool:=
 Z (qL (E F T) (kh (E F T) 1000000) f (.ptr 6000 0::args) (jD (E F T) 6003 (rows k))) false λr=>ok r.1 r.2
def okV(k:Nat)(u:G)(v:G)(H:Heap):Bool:=L (qF v u) (kept k H)
def zcJ:G:=.agg ((List.range 32).map λ_=>.int .u8 (.ofNat 0))
def Dm(k:Nat):Bool:=run [] [] 8 k [] (okV k (.agg (ZX k)))
def P7(k j:Nat):Bool:=run [] [] 10 k [qc j] (okV k (.tuple [.agg (ZX j),.bool true]))
def zjt(k:Nat)(b:Bool):List Fact:=.bin .lss (nf 0) (qc 0) (qx b)::ifB b [] [.bin .geq (nf 0) (qc (Nat.succ k)) (.bool true)]
def pg(k:Nat)(b:Bool):Bool:=run (zjt k b) [] 10 k [nf 0] (okV k (.tuple [zcJ,.bool false]))
def P6(k:Nat):Bool:=run [] [] 13 k [] (okV k (qc k))
def P5(p i q:Nat):Fact:=jY p (.call 65 [ol 0 i] .nilslice) λ_=>.make 65 [ol 0 i] 6000 1 [(6000,.ints 3 (.sym q))] (.osl 6000 (.sym q))
def S9(k p q:Nat)(v:G)(H:Heap):Bool:=
 match v with
 | .tuple l=>lC l false λa m=>L (yh m [.bool true]) (L (kept k H) (match a with
  | .agg l=>Z (yG 9 l) false λu=>Z (yG 10 l) false λd=>L (cV u p 70 H) (L (cV d q 71 H) (yh l [of 0 0,of 0 1,of 0 2,of 0 3,of 0 4,of 0 5,of 0 6,of 0 7,of 0 8,u,d,of 0 9,of 0 10,of 0 11]))
  | _=>false))
 | _=>false
def uw(k p q:Nat):Bool:=run [P5 p 0 70,P5 q 1 71] (AP.jz p q) 11 k [qc 0] (S9 k p q)
def Wn:Fact:=.call 31 [.str KT.Xd,.nilslice] (.agg (ZX 0))
def cg(v:G)(H:Heap):Bool:=match v with|.ptr b o=>L (Nat.beq o 0) (Z (H.row b) false λr=>Z (r.c.get 1) false λh=>tI h 1 λhb=>L (JO H b 96 [.nilslice,h]) (JO H hb 29 (ZJ 0)))|_=>false
def JS:Bool:=Z (qL (E [Wn] KP.tabs) (kh (E [Wn] KP.tabs) 1000000) 22 [] (jt (E [Wn] KP.tabs) 6003)) false λr=>cg r.1 r.2
def iJ(p q:Nat):Env:=Qm prog [] (zX (kO p 70 2070) (kO q 71 2071)) (AP.jz p q)
def MK(p q:Nat)(v:G)(H:Heap):Bool:=match v with
 | .agg l=>Z (yG 9 l) false λu=>Z (yG 10 l) false λd=>L (cV u p 70 H) (L (cV d q 71 H) (yh l [nf 0,nf 1,nf 2,nf 3,nf 4,nf 5,nf 6,nf 7,nf 8,u,d,nf 9,nf 10,nf 11]))
 | _=>false
def xF(p q:Nat):Bool:=Z (qL (iJ p q) (kh (iJ p q) 1000000) 25 [ZL p q] (jt (iJ p q) 6003)) false λr=>MK p q r.1 r.2
def gK(k:Nat):Bool:=L (Dm k) (L (P6 k) (L (pg k true) (L (pg k false) (L (J3 (λj=>P7 k j) (List.range (Nat.succ k))) (jY k true λ_=>ZO λp q=>uw k p q)))))
end TC
end
noncomputable def zew:Fact:=.call 6 [] (.bool true)
def dK:zP tabs=true:=U
def zfQ(hi:i<6):QX i=true:=by
 have:i=0\/i=1\/i=2\/i=3\/i=4\/i=5:=by omega
 rcases this with rfl|rfl|rfl|rfl|rfl|rfl
 .exact zfW
 .exact zfV
 .exact zfU
 .exact zfT
 .exact zfS
 .exact zfR
def zfP{p:List Nat×List Nat}(hp:p∈Mu):pe p=true:=by
 obtain⟨i,hi,e⟩:=List.getElem_of_mem hp;have h:=zfQ (i:=i) hi;unfold QX at h;rw[Ly hi,e]at h;exact h
section
variable[Unk]{val:El}
def Ge:∀id,300<=id->B val id=none:=by
 intro id h
 cases hx:B val id with
 | none=>rfl
 | some x=>
  have hx:zQ (YI val) id=some x:=hx;unfold zQ at hx;rw[O I]at hx;have:=Zx id x hx;omega
def mJ{l:List (Nat×X)}:zJ (iA [] l) (B val):=by
 intro f a;cases(show f∈([]:List Fact) from a)
def lR:∀f∈V3,zu prog tabs (B val) f:=by
 intro f a;obtain⟨p,hp,rfl⟩:=Lv.1 a;have h:=zfP hp;unfold pe at h;exact xm (E:=E0) (UK [] tabs) (β0:=B val) mJ (λ_ _ h=>h) Ge dK h
def M3:zu prog tabs (B val) Wn:=by
 have h:=ziY;unfold JS at h;exact mK (E:=E0) (UK [] tabs) C Zx mJ dK h trivial
def vj:zu prog tabs (B val) nh:=by
 have h:=zcO;unfold uv at h;exact mK (E:=u4 V3) (UK V3 tabs) C Zx lR dK h trivial
def xU:zu prog tabs (B val) zew:=by
 have h:=zex;unfold ux at h;refine Gw (E:=u4 (V3++[Wn,nh])) (UK _ tabs) C Zx (λf a=>?_) dK h trivial trivial;rcases LJ.1 (show f∈V3++[Wn,nh] from a) with a|a
 .exact lR f a
 .simp only[Lf,Lq,Lo]at a;rcases a with rfl|rfl
  .exact M3
  .exact vj
end
def xV(h:WO w):Calls prog 6 #[] w λe w2=>e = .returned (.bool true)/\Grown w w2:=by
 letI:=unk0;have:=xU (val:=λ_=>.int .i64 0);obtain⟨_,_,h2⟩:=this;exact(h2 w h).mono λe w2 hx=>hx
namespace KQ
open KP
def Uf(rs:El):List Value:=(List.range 138).map λi=>rs (100+i)
def Fz[Unk]{ws:Ek}{g:Inj}(a:∀i,i<138->yc (rs (100+i))=true)(hle:(BN 6000 (Ze ws rs)).le g):WFs g rest/\K g rest=Uf rs:=by
 have key:∀i,i<138->WF g (.sym (100+i))/\J g (.sym (100+i))=rs (100+i):=by
  intro i hi;obtain⟨c,b⟩:=WF.mono hle _ (jd (N:=6000) (val:=Ze ws rs) (id:=100+i) I I);refine⟨c,b.trans (kp I I ?_ (a i hi))⟩;unfold Ze;rw[Y I]
 constructor
 .rw[qb];intro v hv;obtain⟨i,hi,rfl⟩:=Lv.1 hv;exact(key i (Lr.1 hi)).1
 .rw[zC];unfold rest Uf;rw[LZ];exact Ab λi hi=>(key i (Lr.1 hi)).2
def vT[Unk]{ws:Ek}(hw:∀i,ws i<W):yW prog KP.tabs (BN 6000 (Ze ws rs)) 228 [.ptr 6000 0] 6001 [(6000,Qo 0)] [(6000,Qo 24)] (.tuple []) 6049:=by
 have h:=kq0;unfold zh4 yT at h;simp only[zl,Le]at h
 exact Vn (E:=E) (QA yQ JL (λp hp=>by
  have hp:p∈[((277:Eu),Spec.fact)]:=hp;rw[Lu]at hp;subst hp
  trivial)) (eU hw) jL h.2.2.2
def FK{ws:Ek}(P:∀i,i<138->yc (rs (100+i))=true)(hw:∀i,ws i<W)(f:zx prog w x 303 (qv ws++Uf rs))(d:∀p∈KP.tabs,p.1≠x.1)(z:@ql unkK prog KP.tabs w) :
  Calls prog 228 #[.pointer (some ⟨x.1,x.2.1,none⟩)] w λe w2=>e = .returned (.tuple #[])/\zx prog w2 x 303 (qv (perm ws)++Uf rs)/\(∀k,k<w.heap.size->k≠x.1->w2.heap[k]?=w.heap[k]?)/\w.heap.size<=w2.heap.size/\w2.tape=w.tape/\w2.os=w.os/\w2.output=w.output:=by
 letI:=unkK;let σ:=Zm 6000 (Ze ws rs);let pl:Nat->Nat×Nat×Nat:=λ_=>x
 let β:=qG σ 6000 1 pl
 let H:Heap:=jD E 6001 [(6000,Qo 0)]
 have hle:(BN 6000 (Ze ws rs)).le β:=kl C ju;have self:β 6000=some x:=qH C C;have T:∀p∈[((6000:Nat),Qo 0)],6000<=p.1/\p.1<6000+1:=λp hp=>by rw[Lu]at hp;subst hp;exact⟨C,C⟩
 have both:∀ {b:Inj}{r:Nat},(BN 6000 (Ze ws rs)).le b->r<25->WFs b ((r25.map λi=>Jj r i)++rest)/\K b ((r25.map λi=>Jj r i)++rest)=qv (st ws r)++Uf rs:=by
  intro b r u j;obtain⟨o1,o2⟩:=yw (ws:=ws) u (r:=r) j;obtain⟨p1,p2⟩:=Fz P u;constructor
  .rw[qb]at o1 p1 ⊢;intro v hv;rcases LJ.1 hv with h|h
   .exact o1 v h
   .exact p1 v h
  .rw[zC]at o2 p2 ⊢;rw[Az,o2,p2]
 obtain⟨o1,o2⟩:=both hle (r:=0) C
 have hR:Rel prog β H w:=Uj (E:=E) (m:=1) C ju jL z T (λp hp=>by
  rw[Lu]at hp;subst hp
  exact zx.blk (l:=(r25.map λi=>Jj 0 i)++rest) rfl o1 (by rw[o2];exact f)) (λp hp q hq _=>by rw[Lu]at hp hq;rw[hp,hq]) (λp _ t z=>d t z)
 have a:∀id,H.blk.get id=if 6000=id then some (Qo 0) else(jj KP.tabs).get id:=λid=>by
  show(M.set (jj KP.tabs) 6000 (Qo 0)).get id=_;rw[M.zN]
 have hp:=vT hw β H w hle hR (λg u=>by show qG σ 6000 1 pl g=_;rw[Zz I];exact Y u) (λp hp=>by
  obtain⟨c1,_,c3⟩:=qu jL p hp;refine⟨c1,?_⟩;rw[a,O I]
  exact c3) rfl (λp hp=>by
  rw[Lu]at hp;subst hp
  rw[a,Y rfl]) ⟨by show(β 6000).isSome=true;rw[self];rfl,trivial⟩
 have ea:(K β [.ptr 6000 0]).toArray = #[.pointer (some ⟨x.1,x.2.1,none⟩)]:=by
  simp[K,J,Inj.addr,Inj.blk,Inj.sh,self]
 rw[ea]at hp;refine hp.mono λe w2 hx=>?_;obtain⟨b,rfl,_,hR2,hE⟩:=hx;refine⟨rfl,?_,λc hc Q=>hE.frame c hc λP=>?_,hE.size,hE.tape,hE.os,hE.output⟩
 .have g6:b 6000=some x:=(hE.old 6000 (by show 6000<6001;omega)).trans self
  have n:(ZV H [(6000,Qo 0)] [(6000,Qo 24)] 6049).blk.get 6000=some (Qo 24):=by
   show(M.set (Yy [(6000,Qo 0)] H.blk) 6000 (Qo 24)).get 6000=_;rw[M.zN,Y rfl]
  have:=zx.of (l:=(r25.map λi=>Jj 24 i)++rest) rfl (hR2.blk 6000 _ _ n g6);rw[(both (hle.trans (hE.le hR.bnd)) (r:=24) C).2]at this;exact this
 .obtain⟨id,c',y,h1,h2,h3,h4⟩:=P;rw[a]at h2;split at h2
  .rename_i e;subst e;rw[self]at h3;cases h3;exact Q h4.symm
  .have:=(qu jL _ (kK _ _ _ h2)).1;omega
end KQ
end Go.AEv
