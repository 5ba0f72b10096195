/- Trails: L2a. Conditions: each theorem's. -/
import Derived.Test.YtaffhpgaagnjfaaGreatDoorH1x4
import Derived.Test.YtaffhpgaagnjfaaGreatDoorH1x3
import Derived.Test.YtaffhpgaagnjfaaGreatDoorH1x2
import Derived.Test.YtaffhpgaagnjfaaGreatDoorH1x0
import Derived.Test.YtaffhpgaagnjfaaGreatDoorH1x1
import Derived.Test.YtaffhpgaagnjfaaGreatDoorH0x0
import Derived.ArgAppend
import Derived.Deep.Upon
import Derived.Test.YtaffhpgaagnjfaaGreatDoorH1x5
import Derived.Lib.Walk
import Derived.Stop.BytesEq
import Derived.Deep.MidRow
import Derived.IntWalk
import Derived.Laws.Bits64b
import Derived.Laws.BitsLemmas
set_option linter.all false
open List Nat Array Go.World Go.Proofs.Tryz Int UInt8 Go.IntWalk
open Go.Proofs
set_option maxHeartbeats 2000000
namespace Go.AEv
variable{H:Heap}{P:Ef}{T rin rout:List (Nat×X)}{a us:Ec}{b f:Ek}{c c2 i j k lo m n n1 n2:Nat}{g:Inj}{l:Eb}{p1 p2:Ed}{t:Eg}{u w w2:Ea}{v v1 v2:Ei}{x:Ej}
open Go
open KP(W qv jL unkK)
open Go.AuditPlain(hi QL qs zm zT numbers zig)
open CK(lsV lsT elT el kT kP jH)
open AP(nf ZL Qh ways Kz ZO ol ZJ Qk cV ZX gz JO tI)
noncomputable section
namespace KS
def pwk(n:Nat)(b:Ek):Nat->Nat->Nat
 | 0,j=>WN n j ||| b j
 | k+1,j=>(if j+1<n then pwk n b k (j+1)*256 % W else WN n j) ||| b j
def pw(n:Nat)(b:Ek)(j:Nat):Nat:=pwk n b (7-j % 8) j
def sw(n:Nat)(b:Ek)(j:Nat):Nat:=pw n b (j+1)*256 % W
def wd(n:Nat)(b:Ek)(i:Nat):Nat:=if i<25 then(if 8*i<n then pw n b (8*i) else bm n i) else 0
def dg(n:Nat)(b:Ek)(i:Nat):Nat:=KP.perm (wd n b) (i / 8) / 2 ^ (8*(i % 8)) % 256
def SV(h:last n j=true):pw n b j=WN n j ||| b j:=by
 unfold pw
 cases c:7-j % 8 with
 | zero=>rfl
 | succ k=>
  unfold last at h;rw[zo]at h;split at h
  .rename_i a;have:j % 8=7:=eq_of_beq_eq_true a;omega
  .have:n<=j+1:=Nat.ble_eq.mp h;show(if j+1<n then _ else WN n j) ||| b j=_;rw[O I]
def SU(h:last n j=false):pw n b j=sw n b j ||| b j:=by
 unfold last at h;rw[zo]at h;split at h
 .cases h
 .rename_i a;have a:¬j % 8=7:=λe=>a (by rw[show Nat.mod j 8=7 from e];rfl);have hn:¬n<=j+1:=λe=>by have:=Nat.ble_eq.mpr e;rw[show Nat.ble n (Nat.succ j)=true from this]at h;cases h
  unfold pw sw;have e:7-j % 8=(7-(j+1) % 8)+1:=by omega
  rw[e];show(if j+1<n then pwk n b (7-(j+1) % 8) (j+1)*256 % W else WN n j) ||| b j=_;rw[Y I];rfl
def im(hn:n<136)(a:j<136):WN n j<W:=by
 have:=Ad.1 (Ad.1 abv n (Lr.2 hn)) j (Lr.2 a);exact Nat.blt_eq.mp this
def P3(hn:n<136)(hi:i<25):bm n i<W:=by
 have:=Ad.1 (Ad.1 cns n (Lr.2 hn)) i (Lr.2 hi);exact Nat.blt_eq.mp this
def Ct{a:Nat}(h1:a<W)(h2:c<W):a ||| c<W:=or_lt_two_pow (n:=64) h1 h2
section
variable{n:Nat}{b:Ek}(hn:n<136)(hb:∀j,b j<256)
include hn hb
theorem zdr:∀k j,j<136->pwk n b k j<W
 | 0,j,hj=>Ct (im hn hj) (Nat.lt_trans (hb j) C)
 | k+1,j,hj=>by
  show(if j+1<n then _ else WN n j) ||| b j<W;split
  .exact Ct (Af _ C) (Nat.lt_trans (hb j) C)
  .exact Ct (im hn hj) (Nat.lt_trans (hb j) C)
theorem zb6{j:Nat}(a:j<136):pw n b j<W:=zdr hn hb _ j a
theorem ze3(i:Nat):wd n b i<W:=by
 unfold wd;split
 .split
  .exact zb6 hn hb I
  .rename_i h _;exact P3 hn h
 .decide
end
def kU(n:Nat)(b:Ek)(id:Nat):Value:=
 if id<2200 then .int .u8 (b (id-2000):Nat) else if id<2400 then .int .u64 (b (id-2200):Nat) else if id<2600 then .int .u64 (sw n b (id-2400):Nat) else if id<2800 then .int .u64 (pw n b (id-2600):Nat)
 else if id<3000 then .int .u64 (pw n b (8*(id-2800)):Nat) else if id<3200 then .int .u64 (KP.perm (wd n b) (id-3000):Nat) else if id<3300 then .int .u64 (KP.perm (wd n b) ((id-3200) / 8) / 2 ^ (8*((id-3200) % 8)):Nat) else .int .u8 (dg n b (id-3300):Nat)
section
variable[Unk]{n:Nat}{b:Ek}
def sv{id:Nat}(h1:100<=id)(h2:id<6000)(e:kU n b id=v)(a:yc v=true):J (KP.BN 6000 (kU n b)) (.sym id)=v:=by
 refine KP.kp h1 h2 e ?_;exact a
def Iq(a:j<136):WF (KP.BN 6000 (kU n b)) (.sym (2000+j))/\J (KP.BN 6000 (kU n b)) (.sym (2000+j)) = .int .u8 (b j:Nat):=
 ⟨KP.jd I I,sv I I (by unfold kU;rw[Y I,LA]) rfl⟩
def zb1(a:j<136):WF (KP.BN 6000 (kU n b)) (.sym (2200+j))/\J (KP.BN 6000 (kU n b)) (.sym (2200+j)) = .int .u64 (b j:Nat):=
 ⟨KP.jd I I,sv I I (by unfold kU;rw[O I,Y I,LA]) rfl⟩
def zb0(a:j<136):WF (KP.BN 6000 (kU n b)) (.sym (2400+j))/\J (KP.BN 6000 (kU n b)) (.sym (2400+j)) = .int .u64 (sw n b j:Nat):=
 ⟨KP.jd I I,sv I I (by unfold kU;rw[O I,O I,Y I,LA]) rfl⟩
def Ip(a:j<136):WF (KP.BN 6000 (kU n b)) (.sym (2600+j))/\J (KP.BN 6000 (kU n b)) (.sym (2600+j)) = .int .u64 (pw n b j:Nat):=
 ⟨KP.jd I I,sv I I (by unfold kU;rw[O I,O I,O I,Y I,LA]) rfl⟩
def zbZ(hi:i<25):WF (KP.BN 6000 (kU n b)) (.sym (2800+i))/\J (KP.BN 6000 (kU n b)) (.sym (2800+i)) = .int .u64 (pw n b (8*i):Nat):=
 ⟨KP.jd I I,sv I I (by unfold kU;rw[O I,O I,O I,O I,Y I,LA]) rfl⟩
def Io(hi:i<25):WF (KP.BN 6000 (kU n b)) (.sym (3000+i))/\J (KP.BN 6000 (kU n b)) (.sym (3000+i)) = .int .u64 (KP.perm (wd n b) i:Nat):=
 ⟨KP.jd I I,sv I I (by unfold kU;rw[O I,O I,O I,O I,O I,Y I,LA]) rfl⟩
def zbY(hi:i<32):WF (KP.BN 6000 (kU n b)) (.sym (3200+i))/\J (KP.BN 6000 (kU n b)) (.sym (3200+i)) = .int .u64 (KP.perm (wd n b) (i / 8) / 2 ^ (8*(i % 8)):Nat):=
 ⟨KP.jd I I,sv I I (by unfold kU;rw[O I,O I,O I,O I,O I,O I,Y I,LA]) rfl⟩
def zbX(hi:i<32):WF (KP.BN 6000 (kU n b)) (.sym (3300+i))/\J (KP.BN 6000 (kU n b)) (.sym (3300+i)) = .int .u8 (dg n b i:Nat):=
 ⟨KP.jd I I,sv I I (by unfold kU;rw[O I,O I,O I,O I,O I,O I,O I,LA]) rfl⟩
def fK(h:KA.is lo m i=true):∃j,i=lo+j/\j<m:=by
 unfold KA.is at h;rw[zl,Le,zK,Lk,zW,Lk]at h;have h2:i<lo+m:=h.2;exact⟨i-lo,I,I⟩
def u64z_eq{v:G}(h:KA.u64z v c=true):v = .int .u64 (.ofNat c):=by
 cases v<;>first|(cases h;done)|skip
 rename_i k z;cases k<;>first|(cases h;done)|skip
 cases z<;>first|(cases h;done)|skip
 have:_=c:=eq_of_beq_eq_true h;rw[this]
def wF{v:G}(h:dr v=some m):v = .int .u64 (.ofNat m):=by
 cases v<;>first|(cases h;done)|skip
 rename_i k z;cases k<;>first|(cases h;done)|skip
 cases z<;>first|(cases h;done)|skip
 cases h;rfl
def FV{v:G}(h:og v=some m):v = .int .i64 (.ofNat m):=by
 cases v<;>first|(cases h;done)|skip
 rename_i k z;cases k<;>first|(cases h;done)|skip
 cases z<;>first|(cases h;done)|skip
 cases h;rfl
def tJ{x:Nat}(a:k<=64):YV .shr .u64 (x:Nat) .i64 (k:Nat)=some (.int .u64 ((x / 2 ^ k:Nat):Int)):=by
 show some (mkInt .u64 (.ofNat (Nat.div x (Nat.pow 2 (shN .u64 k)))))=_;have e:shN .u64 k=k:=by unfold shN;rw[zo,Y (by show Nat.ble k 64=true;exact Nat.ble_eq.mpr a)]
 rw[e,KP.mkI];rfl
variable(hn:n<136)(hb:∀j,b j<256)
include hn hb
theorem zae:∀op x y r,gS n op x y=some r->Qg P (KP.BN 6000 (kU n b)) op x y r:=by
 intro op x y v h;have blt:∀j,b j<W:=λj=>Nat.lt_trans (hb j) C;cases op<;>first|(cases h;done)|skip
 case or=>
  replace h:(Z (KP.qZ y) none λi=>ifB (KA.is 2200 136 i) (frc (Nat.sub i 2200) λj=>Z (KP.qZ x) (Z (dr x) none λm=>ifB (L (last n j) (Nat.beq m (WN n j))) (some (KA.s 2600 j)) none) λg=>ifB (L (kV (last n j)) (Nat.beq g (Nat.add 2400 j))) (some (KA.s 2600 j)) none) none)=some v:=h
  cases a:KP.qZ y with
  | none=>rw[a]at h;cases h
  | some i=>
   rw[a,ze]at h;replace h:=zh h;obtain⟨h1,h⟩:=h;obtain⟨j,rfl,d⟩:=fK h1;have a:=KP.jf a;subst a;replace h:=(qg _ _).symm.trans h;rw[show Nat.sub (2200+j) 2200=j from LA ..]at h;obtain⟨g1,e⟩:=zb1 (n:=n) (b:=b) d;obtain⟨f,c⟩:=Ip (n:=n) (b:=b) d
   cases hx:KP.qZ x with
   | none=>
    rw[hx,zn]at h
    cases hm:dr x with
    | none=>rw[hm]at h;cases h
    | some m=>
     rw[hm,ze]at h;replace h:=zh h;obtain⟨h2,h⟩:=h;rw[zl,Le]at h2;have hm2:m=WN n j:=eq_of_beq_eq_true h2.2;obtain rfl:=wF hm;cases h;refine j8 (tabs:=[]) trivial g1 f (show J _ (.int .u64 (.ofNat m)) = .int .u64 (m:Nat) from rfl) e (KP.fP (by rw[hm2];exact im hn d) (blt j)) ?_;refine Eq.trans ?_ c.symm;rw[SV h2.1,hm2]
     rfl
   | some g=>
    rw[hx,ze]at h;replace h:=zh h;obtain⟨h2,h⟩:=h;rw[zl,Le]at h2;have l:g=2400+j:=eq_of_beq_eq_true h2.2;have hx:=KP.jf hx;subst hx;subst l;cases h;obtain⟨t,p⟩:=zb0 (n:=n) (b:=b) d;refine j8 (tabs:=[]) t g1 f p e (KP.fP (Af _ C) (blt j)) ?_;refine Eq.trans ?_ c.symm;rw[SU (by have:=h2.1;rw[qW]at this;simpa using this)];rfl
 case shl=>
  replace h:(Z (KP.qZ x) none λi=>ifB (L (KA.is 2601 135 i) (KA.u64z y 8)) (some (KA.s 2400 (Nat.sub i 2601))) none)=some v:=h
  cases hx:KP.qZ x with
  | none=>rw[hx]at h;cases h
  | some i=>
   rw[hx,ze]at h;replace h:=zh h;obtain⟨h1,h⟩:=h;rw[zl,Le]at h1;obtain⟨j,rfl,d⟩:=fK h1.1;have hx:=KP.jf hx;subst hx;obtain rfl:=u64z_eq h1.2;rw[show Nat.sub (2601+j) 2601=j from LA ..]at h;cases h;obtain⟨g1,e⟩:=Ip (n:=n) (b:=b) (j:=j+1) I;rw[show 2600+(j+1)=2601+j by omega]at g1 e;obtain⟨f,c⟩:=zb0 (n:=n) (b:=b) (j:=j) I;refine j8 (tabs:=[]) g1 trivial f e (show J _ (.int .u64 (.ofNat 8)) = .int .u64 ((8:Nat):Int) from rfl) (KP.oC (x:=pw n b (j+1)) (k:=8) C) ?_;exact Eq.trans rfl c.symm
 case xor=>
  replace h:(ifB (KA.u64z x 0) (Z (KP.qZ y) none λj=>ifB (L (KA.is 2600 136 j) (Nat.beq (Nat.mod (Nat.sub j 2600) 8) 0)) (some (KA.s 2800 (Nat.div (Nat.sub j 2600) 8))) none) none)=some v:=h;replace h:=zh h;obtain⟨h1,h⟩:=h;obtain rfl:=u64z_eq h1
  cases a:KP.qZ y with
  | none=>rw[a]at h;cases h
  | some i=>
   rw[a,ze]at h;replace h:=zh h;obtain⟨h2,h⟩:=h;rw[zl,Le]at h2;obtain⟨j,rfl,d⟩:=fK h2.1;have a:=KP.jf a;subst a;rw[show Nat.sub (2600+j) 2600=j from LA ..]at h h2;have hm:j % 8=0:=eq_of_beq_eq_true h2.2;cases h;obtain⟨g1,e⟩:=Ip (n:=n) (b:=b) d;obtain⟨f,c⟩:=zbZ (n:=n) (b:=b) (i:=j / 8) I;rw[show 8*(j / 8)=j by omega]at c;refine j8 (tabs:=[]) trivial g1 f (show J _ (.int .u64 (.ofNat 0)) = .int .u64 ((0:Nat):Int) from rfl) e (KP.dy C (zb6 hn hb d)) ?_;refine Eq.trans ?_ c.symm;rw[zero_xor];rfl
 case shr=>
  replace h:(Z (KP.qZ x) none λi=>Z (og y) none λm=>ifB (L (KA.is 3000 4 i) (L (Nat.beq (Nat.mod m 8) 0) (Nat.blt m 64))) (some (KA.s 3200 (Nat.add (Nat.mul 8 (Nat.sub i 3000)) (Nat.div m 8)))) none)=some v:=h
  cases hx:KP.qZ x with
  | none=>rw[hx]at h;cases h
  | some i=>
   rw[hx,ze]at h
   cases hm:og y with
   | none=>rw[hm]at h;cases h
   | some m=>
    rw[hm,ze]at h;replace h:=zh h;obtain⟨h1,h⟩:=h;rw[zl,Le,zl,Le]at h1;obtain⟨j,rfl,d⟩:=fK h1.1;have hx:=KP.jf hx;subst hx;obtain rfl:=FV hm;have w:m % 8=0:=eq_of_beq_eq_true h1.2.1;have u:m<64:=Nat.blt_eq.mp h1.2.2;rw[show Nat.sub (3000+j) 3000=j from LA ..]at h;cases h;obtain⟨g1,e⟩:=Io (n:=n) (b:=b) (i:=j) I;obtain⟨f,c⟩:=zbY (n:=n) (b:=b) (i:=8*j+m / 8) I;rw[show(8*j+m / 8) / 8=j by omega,show 8*((8*j+m / 8) % 8)=m by omega]at c;refine j8 (tabs:=[]) g1 trivial f e (show J _ (.int .i64 (.ofNat m)) = .int .i64 (m:Nat) from rfl) (tJ I) ?_;exact Eq.trans rfl c.symm
omit hn hb in
theorem Sn:(wIn n).length=25:=by unfold wIn;rw[Ls,As]
omit hn hb in
theorem Ii:vg.length=25:=by unfold vg;rw[Ls,As]
omit hn hb in
theorem Ij:WFs (KP.BN 6000 (kU n b)) (wIn n)/\K (KP.BN 6000 (kU n b)) (wIn n)=KP.qv (wd n b):=by
 have key:∀i,i<25->WF (KP.BN 6000 (kU n b)) (ifB (Nat.blt (Nat.mul 8 i) n) (KA.s 2800 i) (.int .u64 (.ofNat (bm n i))))/\J (KP.BN 6000 (kU n b)) (ifB (Nat.blt (Nat.mul 8 i) n) (KA.s 2800 i) (.int .u64 (.ofNat (bm n i)))) = .int .u64 (wd n b i:Nat):=by
  intro i hi;unfold wd;rw[Y hi,zo,zW];by_cases h:8*i<n
  .rw[Y (show decide (Nat.mul 8 i<n)=true from Lx h),Y h];exact zbZ hi
  .rw[O (by rw[show Nat.mul 8 i=8*i from rfl];simpa using h),O h];exact⟨trivial,rfl⟩
 constructor
 .rw[qb];intro v hv;obtain⟨i,hi,rfl⟩:=Lv.1 hv;exact(key i (Lr.1 hi)).1
 .rw[zC];unfold wIn;rw[LZ];exact Ab λi hi=>(key i (Lr.1 hi)).2
omit hn hb in
theorem DY:WFs (KP.BN 6000 (kU n b)) vg/\K (KP.BN 6000 (kU n b)) vg=KP.qv (KP.perm (wd n b)):=by
 constructor
 .rw[qb];intro v hv;obtain⟨i,hi,rfl⟩:=Lv.1 hv;exact(Io (Lr.1 hi)).1
 .rw[zC];unfold vg;rw[LZ];exact Ab λi hi=>(Io (Lr.1 hi)).2
end
def Jq[Unk]{N:Nat}(hN:100<=N){val:El}(c:zP T=true){f:Eu}{a:List Seg}{args:List G}{nx:Nat}{r:G}(h1:ZS (JM rin)=true)(h2:ZS (JM rout)=true)(h3:Cr N rout=true)
  (hm:yW P T (KP.BN N val) f args nx rin rout r n):zu P T (KP.BN N val) (.memoG f N a args nx rin rout r n):=by
 refine⟨KP.BN N val,λ_ _ h=>h,KP.UH hN,hm,yM h1,aL h3,yM h2,λp hp=>?_⟩;obtain⟨c1,c2,c3⟩:=qu c p hp;exact⟨λg β' x w hb d e=>Kn hb d c2 e,c3⟩
def vU(hn:n<136)(hb:∀j,b j<256):@zu KP.unkK prog KP.tabs (@KP.BN KP.unkK 6000 (kU n b)) (Co n):=by
 letI:=KP.unkK;obtain⟨r,p⟩:=Ij (n:=n) (b:=b);obtain⟨e,m⟩:=DY (n:=n) (b:=b);refine Jq C KP.jL rfl rfl rfl ?_;refine Ut (l:=wIn n) (l':=vg) Sn Ii C C trivial e (λβ' h=>h.1) λβ' w x hle g f c hx a d=>?_;rw[(WFs.mono hle _ r).2,p]at a
 have k:(K β' [.ptr 6000 0]).toArray = #[.pointer (some ⟨x.1,x.2.1,none⟩)]:=by
  simp[K,J,Inj.addr,Inj.blk,Inj.sh,hx]
 rw[k,(WFs.mono hle _ e).2,m];exact KP.sB (ze3 hn hb) a c f
def oU(n:Nat)(b:Ek):List Value:=(List.range 32).map λi=>.int .u8 (dg n b i:Nat)
def Good(n:Nat):Prop:=n=6\/(57<=n/\n<129)
def Good.lt(h:Good n):n<136:=by unfold Good at h;omega
def zes(c:Good n):chk n=true:=by
 rcases c with rfl|⟨h1,h2⟩
 .exact zi2
 have key:∀(l:Eb),Ha l=true->∀m∈l,chk m=true:=λl h m hm=>KP.W6 (p:=chk) (l:=l) h m hm;rcases LD n 73 with h|h
 .exact key _ zi5 n (Lv.2 ⟨n-57,Lr.2 I,by show 57+(n-57)=n;omega⟩)
 .rcases LD n 89 with h'|h'
  .exact key _ zi4 n (Lv.2 ⟨n-73,Lr.2 I,by show 73+(n-73)=n;omega⟩)
  .rcases LD n 105 with a|a
   .exact key _ zi3 n (Lv.2 ⟨n-89,Lr.2 I,by show 89+(n-89)=n;omega⟩)
   .rcases LD n 117 with h3|h3
    .exact key _ zi1 n (Lv.2 ⟨n-105,Lr.2 I,by show 105+(n-105)=n;omega⟩)
    .exact key _ zi0 n (Lv.2 ⟨n-117,Lr.2 I,by show 117+(n-117)=n;omega⟩)
def rJ(hg:Good n)(hb:∀j,b j<256)(T:zx prog w x 5 ((List.range n).map λj=>.int .u8 (b j:Nat)))(Q:∀p∈KP.tabs,p.1≠x.1)(ht:@ql KP.unkK prog KP.tabs w) :
  Calls prog 82 #[.slice (some ⟨x.1,x.2.1,none⟩) n (n+x.2.2)] w λe w2=>e = .returned (.agg (oU n b).toArray)/\zx prog w2 x 5 ((List.range n).map λj=>.int .u8 (b j:Nat)) /\
   (∀k,k<w.heap.size->k≠x.1->w2.heap[k]?=w.heap[k]?)/\w.heap.size<=w2.heap.size/\w2.tape=w.tape/\w2.os=w.os/\w2.output=w.output:=by
 letI:=KP.unkK;have hn:n<136:=Good.lt hg;have a:=zes hg;unfold chk at a
 cases hr:qL (E n) (kh (E n) 1000000) 82 [.slice 6000 0 n n false] (jD (E n) 6001 [(6000,rD n)]) with
 | none=>rw[hr]at a;cases a
 | some p=>
  obtain⟨u,H'⟩:=p;rw[hr,ze,zl,Le]at a;obtain⟨hu,H⟩:=a;have hu:u=out:=zV _ _ hu;subst hu
  have H:H'.blk.get 6000=some (rD n):=by
   cases hb':H'.blk.get 6000 with
   | none=>rw[show(out,H').2.blk.get 6000=none from hb']at H;cases H
   | some bl=>rw[show(out,H').2.blk.get 6000=some bl from hb',ze]at H;rw[QZ H]
  let σ:=KP.Zm 6000 (kU n b)
  let pl:Nat->Nat×Nat×Nat:=λ_=>x
  have hlen:(Kt n).length=n:=by unfold Kt;rw[Ls,As]
  have hle:(KP.BN 6000 (kU n b)).le (qG σ 6000 1 pl):=kl C KP.ju
  have g:WFs (KP.BN 6000 (kU n b)) (Kt n)/\K (KP.BN 6000 (kU n b)) (Kt n)=(List.range n).map λj=>.int .u8 (b j:Nat):=by
   constructor
   .rw[qb];intro v hv;obtain⟨j,z,rfl⟩:=Lv.1 hv;exact(Iq (by have:=Lr.1 z;omega)).1
   .rw[zC];unfold Kt;rw[LZ];exact Ab λj z=>(Iq (by have:=Lr.1 z;omega)).2
  obtain⟨c1,c2⟩:=WFs.mono hle _ g.1
  have c:zJ (E n) (KP.BN 6000 (kU n b)):=by
   intro f c;have c:f∈facts n:=c;unfold facts at c;rcases Lf.1 c with rfl|c
   .exact zae hn hb
   rcases Lf.1 c with rfl|c
   .exact vU hn hb
   rcases LJ.1 c with c|c
   .obtain⟨j,z,rfl⟩:=Lv.1 c;have z:=Lr.1 z;obtain⟨g1,g2⟩:=Iq (n:=n) (b:=b) (j:=j) I;obtain⟨r,g4⟩:=zb1 (n:=n) (b:=b) (j:=j) I;exact Xx g1 r g2 g4 (ee I (by have:=hb j;omega))
   .obtain⟨i,hi,rfl⟩:=Lv.1 c;have hi:=Lr.1 hi;obtain⟨g1,g2⟩:=zbY (n:=n) (b:=b) (i:=i) hi;obtain⟨r,g4⟩:=zbX (n:=n) (b:=b) (i:=i) hi;refine⟨g1,r,.u64,_,g2,g4.trans ?_⟩;congr 1
  have hFit:FitA (E n):=(QA KP.yQ KP.JL (λp hp=>by
   have hp:p∈[((228:Eu),Spec.fact)]:=hp;rw[Lu]at hp;subst hp
   trivial)).toFitA
  have self:qG σ 6000 1 pl 6000=some x:=qH C C;have hin:∀p∈[((6000:Nat),rD n)],6000<=p.1/\p.1<6000+1:=λp hp=>by rw[Lu]at hp;subst hp;exact⟨Lh _,lt_succ_self _⟩
  have:=Wf (E:=E n) (σ:=σ) (N:=6000) (m:=1) (pl:=pl) hFit C KP.ju c (Vv rfl) KP.jL ht hin (λp hp=>by
   rw[Lu]at hp;subst hp
   exact zx.blk hlen c1 (by rw[c2,g.2];exact T)) (λp hp q hq _=>by rw[Lu]at hp hq;rw[hp,hq]) (λp _ t ht=>Q t ht) hr ⟨⟨by rw[self];rfl,Lh _⟩,trivial⟩
  have ea:(K (qG σ 6000 1 pl) [.slice 6000 0 n n false]).toArray = #[.slice (some ⟨x.1,x.2.1,none⟩) n (n+x.2.2)]:=by
   simp[K,J,Inj.addr,Inj.blk,Inj.sh,Inj.ext,self]
  rw[ea]at this;refine this.mono λe w2 hx=>?_;obtain⟨hP,γ,rfl,g1,g2,r,_⟩:=hx
  have hlow:(qG σ 6000 1 pl).le γ:=λid y P=>by
   have hid:id<6001:=by
    rcases LD id 6001 with h|h
    .exact h
    .unfold qG at P;rw[O I]at P;have:=KP.UH (N:=6000) (val:=kU n b) C id I;rw[show zQ σ id=none from this]at P;cases P
   rw[g2 id hid];exact P
  refine⟨?_,?_,λk hk hne=>hP.frame k hk λi _ _ e=>hne e.symm,hP.size,hP.tape,hP.os,hP.output⟩
  .have hl:K γ ((List.range 32).map λi=>KA.s 3300 i)=oU n b:=by
    rw[zC,LZ];unfold oU;refine Ab λi hi=>?_;obtain⟨r,g4⟩:=zbX (n:=n) (b:=b) (i:=i) (Lr.1 hi);exact((WF.mono (hle.trans hlow) _ r).2).trans g4
   have:J γ out = .agg (oU n b).toArray:=by
    unfold out;rw[J,hl]
   rw[this]
  .have hx6:γ 6000=some x:=hlow _ _ self;have d:=zx.of (l:=Kt n) hlen (r.blk 6000 _ _ H hx6);rw[(WFs.mono hlow _ c1).2,c2,g.2]at d;exact d
end KS
end
section
open Go.AuditPlain(put jT)
namespace GR
def low:Nat->Nat->List Nat
 | 0,_=>[]
 | c+1,w=>(w / 128 ^ c % 128+128)::low c w
def tg:∀(c w:Nat),low (c+1) w=low c (w / 128)++[w % 128+128]
 | 0,w=>by show[w / 128 ^ 0 % 128+128]=[]++[w % 128+128];simp
 | c+1,w=>by
  show(w / 128 ^ (c+1) % 128+128)::low (c+1) w=((w / 128) / 128 ^ c % 128+128)::low c (w / 128)++[w % 128+128];rw[tg c w,Nat.div_div_eq_div_mul,Nat.pow_succ,Nat.mul_comm (128 ^ c) 128,cons_append]
def Pc:∀(c w:Nat),w<128 ^ c->(c=0\/128 ^ (c-1)<=w)->hi w=low c w
 | 0,w,h,_=>by rw[show w=0 by simpa using h,jT];rfl
 | c+1,w,h,h2=>by
  have h2:128 ^ c<=w:=by rcases h2 with h2|h2;cases h2;simpa using h2
  have hw:w≠0:=by have:=Nat.pow_pos (n:=c) (show 0<128 by decide);omega
  rw[QL hw,tg,Pc c (w / 128) (by rw[Nat.pow_succ]at h;omega) (by
   cases c with
   | zero=>exact .inl rfl
   | succ c=>right;rw[Nat.pow_succ]at h2;show 128 ^ c<=w / 128;omega)]
def Jh{v:Nat}(h:v<128 ^ (c+1))(h2:c=0\/128 ^ c<=v):put v=low c (v / 128)++[v % 128]:=by
 unfold put
 rw[Pc c (v / 128) (by rw[Nat.pow_succ]at h;omega) (by
  cases c with
  | zero=>exact .inl rfl
  | succ c=>
   right;rcases h2 with h2|h2
   .cases h2
   .rw[Nat.pow_succ]at h2;show 128 ^ c<=v / 128;omega)]
def JP(v id:Nat):Value:=
 let i:=(id-100) / 10
 let r:=(id-100) % 10
 if r=0 then .int .u64 (v / 128 ^ i:Nat) else if r=1 then .int .u64 (v / 128 ^ i % 128:Nat) else if r=2 then .int .u8 (v / 128 ^ i % 128:Nat) else .int .u8 (v / 128 ^ i % 128+128:Nat)
def zdy:((List.range 128).all λx=>Z (YV .or .u8 (.ofNat x) .u8 (.ofNat 128)) false λv=>qF v (.int .u8 (.ofNat (Nat.add x 128))))=true:=U
def TI{x:Nat}(h:x<128):YV .or .u8 (x:Nat) .u8 ((128:Nat):Int)=some (.int .u8 ((x+128:Nat):Int)):=by
 have:=Ad.1 zdy x (Lr.2 h)
 cases a:YV .or .u8 (.ofNat x) .u8 (.ofNat 128) with
 | none=>rw[a]at this;cases this
 | some u=>
  rw[a,ze]at this;obtain rfl:=zV _ _ this;rfl
section
variable[Unk]{v:Nat}
def zad{r:Nat}(hi:i<19)(b:r<10){u:Ei}(e:JP v (100+r+10*i)=u)(a:yc u=true):WF (B (JP v)) (.sym (100+r+10*i))/\J (B (JP v)) (.sym (100+r+10*i))=u:=
 ⟨zE I,zF I I e a⟩
def gv(i r:Nat)(a:r<10):JP v (100+r+10*i)=if r=0 then .int .u64 (v / 128 ^ i:Nat) else if r=1 then .int .u64 (v / 128 ^ i % 128:Nat) else if r=2 then .int .u8 (v / 128 ^ i % 128:Nat) else .int .u8 (v / 128 ^ i % 128+128:Nat):=by
 unfold JP;rw[show(100+r+10*i-100) / 10=i by omega,show(100+r+10*i-100) % 10=r by omega]
end
def fX{v:Nat}(hv:v<18446744073709551616)(w:Ea):Calls prog 86 #[.int .u64 (v:Nat)] w λe w2=>Grown w w2/\∃u b,e = .returned u/\iz prog .u8 5 w w2 (str (put v)) u b:=by
 letI:=unk0;have hW:∀i,v / 128 ^ i<KP.W:=λi=>AX (div_le_self _ _) hv;have y:∀i,i<19->WF (B (JP v)) (q 100 i)/\J (B (JP v)) (q 100 i) = .int .u64 (v / 128 ^ i:Nat):=λi hi=>zad (r:=0) hi C (by rw[gv i 0 C];rfl) rfl;have a1:∀i,i<19->WF (B (JP v)) (q 101 i)/\J (B (JP v)) (q 101 i) = .int .u64 (v / 128 ^ i % 128:Nat):=λi hi=>zad (r:=1) hi C (by rw[gv i 1 C];rfl) rfl;have a2:∀i,i<19->WF (B (JP v)) (q 102 i)/\J (B (JP v)) (q 102 i) = .int .u8 (v / 128 ^ i % 128:Nat):=λi hi=>zad (r:=2) hi C (by rw[gv i 2 C];rfl) rfl;have a3:∀i,i<19->WF (B (JP v)) (q 103 i)/\J (B (JP v)) (q 103 i) = .int .u8 (v / 128 ^ i % 128+128:Nat):=λi hi=>zad (r:=3) hi C (by rw[gv i 3 C];rfl) rfl;have nx:∀i,q 110 i=q 100 (i+1):=λi=>congrArg G.sym (show 110+10*i=100+10*(i+1) by omega)
 have gtr:∀(i:Nat) (b:Bool),i<19->b=decide (0<v / 128 ^ i)->zu prog [] (B (JP v)) (.bin .gtr (q 100 i) (u64c 0) (.bool b)):=by
  intro i b hi hb;obtain⟨g1,g2⟩:=y i hi;refine j8 (k:=.u64) (j:=.u64) (m:=(v / 128 ^ i:Nat)) (n:=(0:Nat)) g1 trivial trivial g2 rfl (v:=j7 (ilt (0:Nat) (v / 128 ^ i:Nat))) rfl ?_;rw[Zi,yx,hb];exact congrArg (λx=>J (B (JP v)) (.bool x)) (decide_eq_decide.2 I)
 have hk:∀c,c<10->v<128 ^ (c+1)->(c=0\/128 ^ c<=v)->zJ (EN (grF (c+1))) (B (JP v)):=by
  intro c hc h1 h2 f a;have a:f∈grF (c+1):=a;unfold grF at a;rcases zY a with a|a
  .obtain⟨i,hi,a⟩:=AE.1 a;have hi:i<c+1:=Lr.1 hi;obtain⟨p1,p2⟩:=y i I;obtain⟨p3,p4⟩:=a1 i I;obtain⟨p5,p6⟩:=a2 i I;obtain⟨p7,p8⟩:=a3 i I;obtain⟨z,h⟩:=y (i+1) I;rw[<- nx]at z h;have hdiv:v / 128 ^ (i+1)=v / 128 ^ i / 2 ^ 7:=by rw[Nat.div_div_eq_div_mul,Nat.pow_succ]
   unfold zgS at a;rcases LJ.1 a with a|a
   .simp only[Lf,Lq,Lo]at a;rcases a with rfl|rfl|rfl|rfl
    .refine j8 p1 trivial p3 p2 (show J _ (u64c 127) = .int .u64 ((127:Nat):Int) from rfl) (KP.CU (hW i) C) ?_;rw[p4,show v / 128 ^ i &&& 127=v / 128 ^ i % 128 from and_two_pow_sub_one_eq_mod (v / 128 ^ i) 7];rfl
    .exact Xx p3 p5 p4 p6 (ze0 I I)
    .refine j8 p1 trivial z p2 (show J _ (u64c 7) = .int .u64 ((7:Nat):Int) from rfl) (KP.CT (x:=v / 128 ^ i) (k:=7) C) ?_;rw[h,hdiv];rfl
    .refine j8 p1 trivial z p2 (show J _ (qc 7) = .int .i64 ((7:Nat):Int) from rfl) (KS.tJ (x:=v / 128 ^ i) (k:=7) C) ?_;rw[h,hdiv];rfl
   .cases i with
    | zero=>cases a
    | succ i=>
     have a:f∈[Fact.bin .or (q 102 (i+1)) (u8c 128) (q 103 (i+1)),.bin .gtr (q 100 (i+1)) (u64c 0) (.bool true)]:=a;simp only[Lf,Lq,Lo]at a;rcases a with rfl|rfl
     .refine j8 p5 trivial p7 p6 (show J _ (u8c 128) = .int .u8 ((128:Nat):Int) from rfl) (TI (Af _ C)) ?_;rw[p8];rfl
     .refine gtr (i+1) true I ?_;symm;rw[Lk]
      have hle:128 ^ (i+1)<=v:=by
       rcases h2 with h2|h2
       .omega
       .exact Lj (Nat.pow_le_pow_right C I) h2
      exact div_pos hle (Nat.pow_pos C)
  .rw[Lu]at a;subst a;refine gtr (c+1) false I ?_;symm;rw[LH,div_eq_of_lt h1];decide
 have g:∀c,c<10->∀u∈grL (c+1),Yt 300 u=true/\WF (B (JP v)) u:=by
  intro c
  induction c with
  | zero=>intro _ u d;have d:u∈[G.sym 102]:=d;rw[Lu.1 d];exact⟨rfl,(a2 0 C).1⟩
  | succ c p=>
   intro hc u d;have d:u∈q 113 c::grL (c+1):=d;rcases Lf.1 d with rfl|d
   .refine⟨?_,zE (show 113+10*c<300 by omega)⟩;show decide (113+10*c<300)=true;exact Lx I
   .exact p I u d
 have l:∀c,c<10->K (B (JP v)) (grL (c+1))=(low c (v / 128)++[v % 128]).map λn=>Value.int .u8 (n:Nat):=by
  intro c
  induction c with
  | zero=>
   intro _;have:=(a2 0 C).2;rw[Nat.pow_zero,Nat.div_one]at this;show[J (B (JP v)) (.sym 102)]=_;rw[show G.sym 102=q 102 0 from rfl,this]
   rfl
  | succ c p=>
   intro hc;show J (B (JP v)) (q 113 c)::K (B (JP v)) (grL (c+1))=_;rw[p I];have e:q 113 c=q 103 (c+1):=congrArg G.sym (show 113+10*c=103+10*(c+1) by omega);rw[e,(a3 (c+1) I).2];show _=Value.int .u8 (((v / 128) / 128 ^ c % 128+128:Nat):Int)::_;rw[show v / 128 / 128 ^ c=v / 128 ^ (c+1) by rw[Nat.div_div_eq_div_mul,Nat.pow_succ,Nat.mul_comm]];rfl
 have key:∀c,c<10->WA (c+1)=true->v<128 ^ (c+1)->(c=0\/128 ^ c<=v)->Calls prog 86 #[.int .u64 (v:Nat)] w λe w2=>Grown w w2/\∃u b,e = .returned u/\iz prog .u8 5 w w2 (str (put v)) u b:=by
  intro c hc t h1 h2
  have hs:K (B (JP v)) (grL (c+1))=(str (put v)).data.toList.map λb=>Value.int .u8 b.toNat:=by
   rw[l c hc,<- Jh h1 h2]
   have hb:∀b∈put v,b<256:=by
    intro b hb;rw[Jh h1 h2]at hb
    have hl:∀c w,∀b∈low c w,b<256:=by
     intro c w
     induction c with
     | zero=>intro b hb;cases hb
     | succ c p=>intro b hb;rcases Lf.1 hb with rfl|hb;omega;exact p b hb
    rcases LJ.1 hb with hb|hb
    .exact hl _ _ b hb
    .rw[Lu]at hb;omega
   show(put v).map _=((put v).map UInt8.ofNat).map _;rw[LZ];refine Ab λn hn=>?_;show Value.int .u8 (n:Nat) = .int .u8 ((UInt8.ofNat n).toNat:Nat);rw[toNat_ofNat',AA (hb n hn)]
  have:=Ft (E:=EN (grF (c+1))) (w:=w) rfl (UK _ _) (hk c hc h1 h2) rfl t (λu d=>(g c hc u d).1) ((qb _ _).2 λu d=>(g c hc u d).2) hs ⟨(y 0 C).1,trivial⟩ ko
  have ea:(K (B (JP v)) [.sym 100]).toArray = #[.int .u64 (v:Nat)]:=by
   have:=(y 0 C).2;rw[Nat.pow_zero,Nat.div_one]at this;simp only[K];rw[show G.sym 100=q 100 0 from rfl,this]
  rw[ea]at this;exact this
 rcases LD v (128 ^ 1) with h1|h1
 .exact key 0 C gr1 h1 (.inl rfl)
 rcases LD v (128 ^ 2) with h2|h2
 .exact key 1 C gr2 h2 (.inr h1)
 rcases LD v (128 ^ 3) with h3|h3
 .exact key 2 C gr3 h3 (.inr h2)
 rcases LD v (128 ^ 4) with h4|h4
 .exact key 3 C gr4 h4 (.inr h3)
 rcases LD v (128 ^ 5) with h5|h5
 .exact key 4 C gr5 h5 (.inr h4)
 rcases LD v (128 ^ 6) with T|T
 .exact key 5 C gr6 T (.inr h5)
 rcases LD v (128 ^ 7) with Q|Q
 .exact key 6 C gr7 Q (.inr T)
 rcases LD v (128 ^ 8) with P|P
 .exact key 7 C gr8 P (.inr Q)
 rcases LD v (128 ^ 9) with H|H
 .exact key 8 C gr9 H (.inr P)
 exact key 9 C zjp (Nat.lt_trans hv C) (.inr H)
def cH{v:Nat}(hv:v<34359738368)(w:Ea):Calls prog 86 #[.int .u64 (v:Nat)] w λe w2=>Grown w w2/\∃u b,e = .returned u/\iz prog .u8 5 w w2 (str (put v)) u b:=fX (Nat.lt_trans hv C) w
end GR
end
noncomputable section
open Go.AuditPlain(put)
namespace EN
structure Good(R:zy):Prop where
 ok:R.Ok
 ver:0<=R.version
 err:R.err=0
section
variable{R:zy}
def Good.name{R:zy}(h:Good R):isN R.tenant=true/\¬R.session<1/\isN R.action=true/\isP R.path=true/\R.ZM=0:=by
 have a:=h.err;unfold zy.err at a;split at a
 .cases a
 .rename_i h1;split at a
  .cases a
  .rename_i h2;split at a
   .cases a
   .rename_i h3;split at a
    .cases a
    .rename_i b;exact⟨by simpa using h1,h2,by simpa using h3,by simpa using b,a⟩
def Good.chain{R:zy}(h:Good R):¬(R.granted=false/\¬R.zero)/\qj R.up<=5/\qj R.down<=5/\R.user<=256/\(∀k∈R.els,k<=63)/\R.does.size<=12:=by
 have a:=h.name.2.2.2.2;have q1:=yR h.ok.up;have q2:=yR h.ok.down;unfold zy.ZM at a;split at a
 .cases a
 .rename_i h1;split at a
  .cases a
  .rename_i h2;split at a
   .cases a
   .rename_i h3;split at a
    .cases a
    .rename_i c;refine⟨h1,I,I,I,λk b=>?_,I⟩;rcases LD 63 k with hh|hh
     .exact Ld (.inr ⟨k,b,hh⟩) h3
     .exact hh
def dD{ws:List (List Nat)}(h:yd l ws=true):l∈ws:=Kd h
def Uq{s:Ee}(h:isN s=true):0<s.size:=by
 have hm:=dD (show yd (zG s) Xp=true from h);have a:(Xp.all λl=>Nat.blt 0 l.length)=true:=U;have:=Nat.blt_eq.mp (Ad.1 a _ hm);rwa[zR]at this
def sD{s:Ee}(h:isP s=true):0<s.size:=by
 have hm:=dD (show yd (zG s) Xm=true from h);have a:(Xm.all λl=>Nat.blt 0 l.length)=true:=U;have:=Nat.blt_eq.mp (Ad.1 a _ hm);rwa[zR]at this
def se(R:zy):Sh:=⟨qj R.up,qj R.down,decide (R.does.size=0),decide (R.at_.size=0),R.granted,R.deep⟩
def zc6{a b c:Bool}(d:k<=5):qt k a b c=true:=by
 have h1:k=0\/k=1\/k=2\/k=3\/k=4\/k=5:=by omega
 rcases h1 with rfl|rfl|rfl|rfl|rfl|rfl<;>cases a<;>cases b<;>cases c
 .exact zbc
 .exact zbb
 .exact zba
 .exact za9
 .exact za8
 .exact za7
 .exact za6
 .exact za5
 .exact za4
 .exact za3
 .exact zaZ
 .exact zaY
 .exact zaX
 .exact zaW
 .exact zaV
 .exact zaU
 .exact zaT
 .exact zaS
 .exact zaR
 .exact zaQ
 .exact zaP
 .exact zaO
 .exact zaN
 .exact zaM
 .exact zaL
 .exact zaK
 .exact zaJ
 .exact zaI
 .exact zaH
 .exact zaG
 .exact zaF
 .exact zaE
 .exact zaD
 .exact zaC
 .exact zaB
 .exact zaA
 .exact zaz
 .exact zay
 .exact zax
 .exact zaw
 .exact zav
 .exact zau
 .exact zat
 .exact zas
 .exact zar
 .exact zaq
 .exact zap
 .exact zao
def zfA{R:zy}(h:Good R):(se R).chk=true:=by
 obtain⟨c1,c2,c3,_,_,_⟩:=h.chain;by_cases d:R.granted=false
 .have e:R.zero:=Classical.byContradiction λe=>c1 ⟨d,e⟩;obtain⟨k,z2,j,i,g,f⟩:=e
  have:se R=⟨0,0,true,true,false,false⟩:=by
   unfold se;rw[z2,j,d,f,Lx i,Lx g]
  rw[this];exact enz
 .have d:R.granted=true:=by simpa using d
  have:=jw (zc6 (a:=decide (R.does.size=0)) (b:=decide (R.at_.size=0)) (c:=R.deep) c2) (qj R.down) (Lr.2 I);unfold se;rw[d];exact this
def ny(e:Bool)(s:Ee):List (List Nat):=if e then[[0]] else[put s.size,zG s]
def ke(R:zy):List (List Nat):=
 [put R.version.toNat,put R.tenant.size,zG R.tenant,put (2*R.session.toNat),put R.action.size,zG R.action,put R.path.size,zG R.path,put R.day.toNat,[if R.granted then 1 else 0],put R.user.toNat,[qj R.up]] ++
  ((zI R.up).map put++([[qj R.down]]++((zI R.down).map put++(ny (decide (R.does.size=0)) R.does++(ny (decide (R.at_.size=0)) R.at_++[[if R.deep then 1 else 0]])))))
def lr(s:Ee):(ny (decide (s.size=0)) s).flatten=zm (zG s):=by
 unfold ny zm;rw[zR];by_cases h:s.size=0
 .rw[Y (Lx h),h,Ui C,show zG s=[] from Ax (by rw[zR];exact h)];rfl
 .rw[O (by simpa using h)];simp
def mE(b:Bool):[if b then 1 else 0]=zT b:=by cases b<;>rfl
def mi(l:Eb):(l.map put).flatten=AuditPlain.qf l:=by unfold AuditPlain.qf;rw[List.flatMap_def]
def eS{R:zy}(h:Good R):put R.number.toNat++(ke R).flatten=R.qC.bytes:=by
 obtain⟨_,c2,c3,_⟩:=h.chain
 have hs:qs R.session=put (2*R.session.toNat):=by
  have:=h.name.2.1;unfold qs zig;rw[Y I]
 have b:numbers (zI R.up)=[qj R.up]++AuditPlain.qf (zI R.up):=by
  unfold numbers;rw[Ui (by unfold qj at c2;omega)];rfl
 have hd:numbers (zI R.down)=[qj R.down]++AuditPlain.qf (zI R.down):=by
  unfold numbers;rw[Ui (by unfold qj at c3;omega)];rfl
 have a:∀s:ByteArray,zm (zG s)=put s.size++zG s:=λs=>by unfold zm;rw[zR]
 show _=put R.number.toNat++(put R.version.toNat++(zm (zG R.tenant)++(qs R.session++(zm (zG R.action)++(zm (zG R.path)++(put R.day.toNat++(zT R.granted ++
  (put R.user.toNat++(numbers (zI R.up)++(numbers (zI R.down)++(zm (zG R.does)++(zm (zG R.at_)++zT R.deep))))))))))))
 unfold ke;simp only[List.flatten_append,AY,flatten_nil,AJ];rw[lr,lr,mi,mi,mE,mE,hs,b,hd,a R.tenant,a R.action,a R.path];simp only[Ae]
end
def mq[Unk]{val:El}{tabs:List (Nat×X)}:∀(l:List G) (bs:List (List Nat)) (a:G) (r:Nat) (s:Eb),l.length=bs.length ->
  (∀(i:Nat) (p:G) (b:Eb),l[i]?=some p->bs[i]?=some b->WF (B val) p/\J (B val) p = .string (str b))->WF (B val) a->J (B val) a = .string (str s)->100<=r->r+40+l.length<300 ->
  (∀i,i<l.length->val (r+i) = .string (str (s++(bs.take (i+1)).flatten))/\val (r+40+i) = .int .i64 ((s++(bs.take (i+1)).flatten).length:Nat))->(s++bs.flatten).length<=1000000->∀f∈NK l a r,zu prog tabs (B val) f
 | [],_,_,_,_,_,_,_,_,_,_,_,_,f,c=>by cases c
 | p::l,[],_,_,_,h,_,_,_,_,_,_,_,_,_=>by cases h
 | p::l,b::bs,a,r,s,hlen,hp,ha1,ha2,hr1,hr2,hv,hb,f,c=>by
  have c:f∈zX (zbu a p r (Nat.add r 40)) (NK l (.sym r) (Nat.succ r)):=c;rw[zZ]at c;have j:r+40+(l.length+1)<300:=hr2;obtain⟨p1,p2⟩:=hp 0 p b rfl rfl;obtain⟨q1,q2⟩:=hv 0 Oc;have k:s++((b::bs).take (0+1)).flatten=s++b:=by simp
  rw[k]at q1 q2;have d:(s++b++bs.flatten).length<=1000000:=by rw[Ae,<- AY];exact hb
  rcases LJ.1 c with c|c
  .exact P8 ha1 p1 ha2 p2 hr1 I q1 (by show 100<=r+40;omega) (by show r+40<300;omega) q2 (by rw[Lm]at d;omega) f c
  .refine mq l bs (.sym r) (r+1) (s++b) (by simpa using hlen) (λi p b h1 h2=>hp (i+1) p b h1 h2) (zE I) (zF hr1 I q1 rfl) I I (λi hi=>?_) d f c;obtain⟨g1,g⟩:=hv (i+1) (by simp;omega);have e:s++((b::bs).take (i+1+1)).flatten=s++b++(bs.take (i+1)).flatten:=by rw[take_succ_cons,AY,Ae]
   rw[e]at g1 g;rw[show r+1+i=r+(i+1) by omega,show r+1+40+i=r+40+(i+1) by omega];exact⟨g1,g⟩
def first(R:zy):List Nat:=put R.number.toNat
def vt(R:zy)(i:Nat):ByteArray:=match i with|0=>R.tenant|1=>R.action|2=>R.path|3=>R.does|_=>R.at_
def yS(R:zy)(id:Nat):Value:=
 if id<112 then R.at (id-100)
 else if 170<=id/\id<175 then .int .i64 ((vt R (id-170)).size:Nat)
 else if 175<=id/\id<180 then .int .u64 ((vt R (id-175)).size:Nat)
 else if 180<=id/\id<185 then .string (str (put (vt R (id-180)).size))
 else if 190<=id/\id<200 then .int .u64 ((R.els[id-190]?).getD 0:Nat)
 else if 200<=id/\id<210 then .string (str (put ((R.els[id-200]?).getD 0)))
 else if 212<=id/\id<251 then .string (str (first R++((ke R).take (id-211)).flatten))
 else if 252<=id/\id<291 then .int .i64 ((first R++((ke R).take (id-251)).flatten).length:Nat)
 else match id with
 | 150=>.int .u64 (R.number.toNat:Nat)|151=>.int .u64 (R.version.toNat:Nat)|152=>.int .u64 (R.day.toNat:Nat)|153=>.int .u64 (R.user.toNat:Nat)|154=>.int .u64 (R.session.toNat:Nat)|155=>.int .u64 (2*R.session.toNat:Nat)
 | 160=>.string (str (put R.number.toNat))|161=>.string (str (put R.version.toNat))|162=>.string (str (put (2*R.session.toNat)))|163=>.string (str (put R.day.toNat))|164=>.string (str (put R.user.toNat))
 | 251=>.int .i64 ((put R.number.toNat).length:Nat)|_=>.int .u8 0
def Uh(v:Nat):0<(put v).length:=by unfold put;rw[Lm];simp
def JI{v:Nat}(h:v<34359738368):(put v).length<=5:=by
 by_cases h1:v<128 ^ 1
 .rw[GR.Jh (c:=0) h1 (.inl rfl)];exact(by decide:1<=5)
 .by_cases h2:v<128 ^ 2
  .rw[GR.Jh (c:=1) h2 (.inr I)];exact(by decide:2<=5)
  .by_cases h3:v<128 ^ 3
   .rw[GR.Jh (c:=2) h3 (.inr I)];exact(by decide:3<=5)
   .by_cases a:v<128 ^ 4
    .rw[GR.Jh (c:=3) a (.inr I)];exact(by decide:4<=5)
    .rw[GR.Jh (c:=4) (show v<128 ^ 5 from h) (.inr I)];exact(by decide:5<=5)
section
variable[Unk]{val:El}{tabs:List (Nat×X)}
def Ua{q v:Nat}(h1:100<=q)(h2:q<300)(hq:val q = .string (str (put v))):zu prog tabs (B val) (bU q):=ax h1 h2 hq (by rw[qA];exact Uh v)
def Xt{u t v:Nat}(h1:100<=u)(h2:u<300)(h3:100<=t)(c:t<300)(a:val u = .int .u64 (v:Nat))(b:val t = .string (str (put v)))(hv:v<34359738368):zu prog tabs (B val) (lk 86 [.sym u] t):=
 Fh h3 c b ⟨zE h2,trivial⟩ (by simp only[K];rw[zF h1 h2 a rfl]) (λw _=>GR.cH hv w)
def ZQ{a u t:Nat}{n:Int}(ha:100<=a/\a<300)(b:100<=u/\u<300)(c:100<=t/\t<300)(i:val a = .int .i64 n)(h:val u = .int .u64 (n.toNat:Nat))(g:val t = .string (str (put n.toNat)))(e:0<=n)(h1:n<=2147483647):∀f∈ZR a u t,zu prog tabs (B val) f:=by
 intro f d;simp only[ZR,Lf,Lq,Lo]at d;rcases d with rfl|rfl|rfl
 .refine Xx (n:=n) (zE ha.2) (zE b.2) (zF ha.1 ha.2 i rfl) ?_ (ee e I);rw[zF b.1 b.2 h rfl,toNat_of_nonneg e]
 .exact Xt b.1 b.2 c.1 c.2 h g I
 .exact Ua c.1 c.2 g
def X0{s u t:Nat}{b:Ee}(hs:100<=s/\s<300)(hn:100<=n/\n<300)(a:100<=u/\u<300)(c:100<=t/\t<300)(i:val s = .string b)(h:val n = .int .i64 (b.size:Nat))(g:val u = .int .u64 (b.size:Nat))(e:val t = .string (str (put b.size)))(j:0<b.size)(h1:b.size<=1000) :
  ∀f∈lq s n u t,zu prog tabs (B val) f:=by
 intro f d;simp only[lq,Lf,Lq,Lo]at d;rcases d with rfl|rfl|rfl|rfl|rfl
 .exact ax hs.1 hs.2 i j
 .exact XR (zE hs.2) (zE hn.2) (zF hs.1 hs.2 i rfl) (zF hn.1 hn.2 h rfl)
 .exact Xx (zE hn.2) (zE a.2) (zF hn.1 hn.2 h rfl) (zF a.1 a.2 g rfl) (ee I I)
 .exact Xt a.1 a.2 c.1 c.2 g e I
 .exact Ua c.1 c.2 e
end
end EN
end
section
open Go.AuditPlain(put)
namespace EN
def Pw[Unk](val:El)(l:List G)(bs:List (List Nat)):Prop:=l.length=bs.length/\∀(i:Nat) (p:G) (b:Eb),l[i]?=some p->bs[i]?=some b->WF (B val) p/\J (B val) p = .string (str b)
section
variable[Unk]{val:El}{tabs:List (Nat×X)}
def Pw.nil:Pw val [] []:=⟨rfl,λi p b h=>by cases h⟩
def Pw.cons{p:G}{b:Eb}{l:List G}{bs:List (List Nat)}(h:WF (B val) p/\J (B val) p = .string (str b))(hl:Pw val l bs):Pw val (p::l) (b::bs):=
 ⟨congrArg (·+1) hl.1,λi q c h1 h2=>by
  cases i with
  | zero=>cases h1;cases h2;exact h
  | succ i=>exact hl.2 i q c h1 h2⟩
def Pw.app{l m:List G}{bs cs:List (List Nat)}(h1:Pw val l bs)(h2:Pw val m cs):Pw val (zX l m) (bs++cs):=by
 rw[zZ];refine⟨by rw[Lm,Lm,h1.1,h2.1],λi p b c a=>?_⟩;rcases LD i l.length with h|h
 .rw[Ao h]at c;rw[Ao (by rw[<- h1.1];exact h)]at a;exact h1.2 i p b c a
 .rw[Aj h]at c;rw[Aj (by rw[<- h1.1];exact h),<- h1.1]at a;exact h2.2 _ p b c a
def zeg{a r:G}(ha:WF (B val) a)(b:WF (B val) r)(d:J (B val) a = .int .u64 (m:Nat))(c:J (B val) r = .int .u64 (2*m:Nat))(hm:m<1000000):zu prog tabs (B val) (.bin .mul (u64c 2) a r):=by
 refine j8 (k:=.u64) (j:=.u64) (m:=((2:Nat):Int)) (n:=(m:Nat)) trivial ha b rfl d (v:=mkInt .u64 (Q1 .u64 (wU ((2:Nat):Int) (m:Nat)))) ?_ ?_
 .show same .u64 .u64 _=_;unfold same;rw[zo,Y ((Xs _ _).2 rfl)]
 .rw[kM,yn,oF,c];show Value.int .u64 (IntKind.u64.wrap _)=_;rw[ee I I];congr 1
end
def FJ{R:zy}(hR:R.Ok)(h:Good R):∀b∈ke R,b.length<=200:=by
 obtain⟨c1,c2,c3,c4,c5,g⟩:=h.chain;have h2:=hR.version;have h3:=hR.session;have f:=hR.day;have pl:∀v,v<34359738368->(put v).length<=200:=λv hv=>Lj (JI hv) C;have c:∀ {s:Ee},jM s->(zG s).length<=200:=λhs=>by rw[zR];have:=hs.Yo;omega
 have e:∀ {s:Ee},jM s->∀b∈ny (decide (s.size=0)) s,b.length<=200:=by
  intro s hs b hb;unfold ny at hb;split at hb
  .rw[Lu]at hb;subst hb;decide
  .simp only[Lf,Lq,Lo]at hb;rcases hb with rfl|rfl
   .exact pl _ (by have:=hs.Yo;omega)
   .exact c hs
 have d:∀l:List Nat,(∀a∈l,a<=63)->∀b∈l.map put,b.length<=200:=by
  intro l hl b hb;obtain⟨a,ha,rfl⟩:=Lv.1 hb;exact pl _ (by have:=hl a ha;omega)
 intro b hb;unfold ke at hb;rcases LJ.1 hb with hb|hb
 .simp only[Lf,Lq,Lo]at hb;rcases hb with rfl|rfl|rfl|rfl|rfl|rfl|rfl|rfl|rfl|rfl|rfl|rfl
  .exact pl _ I
  .exact pl _ (by have:=hR.tenant.Yo;omega)
  .exact c hR.tenant
  .exact pl _ I
  .exact pl _ (by have:=hR.action.Yo;omega)
  .exact c hR.action
  .exact pl _ (by have:=hR.path.Yo;omega)
  .exact c hR.path
  .exact pl _ I
  .exact(by decide:1<=200)
  .exact pl _ I
  .exact(by decide:1<=200)
 rcases LJ.1 hb with hb|hb
 .exact d _ (λa ha=>c5 a (List.mem_append_left _ ha)) b hb
 rcases LJ.1 hb with hb|hb
 .rw[Lu]at hb;subst hb;exact(by decide:1<=200)
 rcases LJ.1 hb with hb|hb
 .exact d _ (λa ha=>c5 a (Ay _ ha)) b hb
 rcases LJ.1 hb with hb|hb
 .exact e hR.does b hb
 rcases LJ.1 hb with hb|hb
 .exact e hR.at_ b hb
 .rw[Lu]at hb;subst hb;exact(by decide:1<=200)
def bY{R:zy}(h:Good R):(ke R).length<=28:=by
 obtain⟨c1,c2,c3,c4,c5,b⟩:=h.chain
 have a:∀(e:Bool) (s:Ee),(ny e s).length<=2:=λe s=>by
  cases e
  .exact Lh 2
  .exact(by decide:1<=2)
 have h1:=a (decide (R.does.size=0)) R.does;have h2:=a (decide (R.at_.size=0)) R.at_;have c2:(zI R.up).length<=5:=c2;have c3:(zI R.down).length<=5:=c3;unfold ke;simp only[Lm,Am,length_nil,Ls];omega
end EN
end
section
open Go.AuditPlain(put)
namespace EN
section
variable{R:zy}
def tp[Unk]{row a:Nat}{ls:Eb}{u:Ei}(hx:kT w u ls x)(t:ls.length<=5)(d:Unk.place row=(x.1,x.2.1,x.2.2-ls.length))(h:∀i,i<5->Unk.place (a+i)=ZI ls i) :
  ∀p∈lsT row a ls.length,zO prog (λid=>some (Unk.place id)) p.2 (Unk.place p.1) w:=by
 intro p hp
 cases b:ls.length with
 | zero=>rw[b]at hp;cases hp
 | succ n=>
  rw[b]at hp;have hp:p∈[(row,X.cells 3 (n+1) (M.ofList ((List.range (n+1)).map λi=>.sym (Nat.add a i))))]:=hp;rw[Lu]at hp;subst hp;have f:ls≠[]:=λe=>by rw[e]at b;cases b
  obtain⟨_,m1,arr,fz,m2,m,l,k⟩:=hx.some_ f;rw[b]at d m1;rw[d];refine⟨arr,fz,m2,?_,λi u j=>?_,l,by rw[XN];exact Nat.one_dvd _⟩
  .show x.2.1+(n+1)+(x.2.2-(n+1))*qS prog 3<=arr.size;rw[XN];omega
  .rw[M.qy,Lw]at j;obtain⟨r,c,rfl⟩:=LU.1 j;have g:i<n+1:=by have:=(LL.1 c).1;simpa using this
   rw[Ah g]at c;cases c;refine⟨rfl,?_⟩;show arr[x.2.1+i]?=some (qn (Unk.place (a+i)));have hl:i<ls.length:=by omega
   rw[h i I,kY,k i hl,Ly hl];rfl
def tm[Unk]{val:El}{row:Nat}{ls:Eb}{u:Ei}(hx:kT w u ls x)(b:row<100)(c:Unk.place row=(x.1,x.2.1,x.2.2-ls.length)):WF (B val) (lsV row ls.length)/\J (B val) (lsV row ls.length)=u:=by
 cases a:ls.length with
 | zero=>exact⟨trivial,(hx.none_ (Ax a)).symm⟩
 | succ n=>
  have d:ls≠[]:=λe=>by rw[e]at a;cases a
  obtain⟨f,m1,_⟩:=hx.some_ d;rw[a]at c f m1;have hβ:B val row=some (x.1,x.2.1,x.2.2-(n+1)):=by rw[WZ b,c]
  refine⟨⟨by rw[hβ];rfl,Lh _⟩,?_⟩;show J (B val) (.slice row 0 (n+1) (n+1) false)=u;rw[f];simp only[J,Inj.addr,Inj.blk,Inj.sh,Inj.ext,hβ,LW];rw[O C,Nat.add_sub_cancel' m1];rfl
def zem{val:El}{x1 x2:Ej}{l1 l2:Eb}(h1:l1.length<=5)(h2:l2.length<=5)(hi:i<l1.length+l2.length) :
  letI:=unkE x1 x2 l1.length l2.length l1 l2;WF (B val) (el l1.length i)/\J (B val) (el l1.length i) = .int .i64 (((l1++l2)[i]?).getD 0:Nat):=by
 letI:=unkE x1 x2 l1.length l2.length l1 l2;show WF (B val) (el l1.length i)/\J (B val) (el l1.length i) = .int .i64 (((l1++l2)[i]?).getD 0:Nat);unfold el;rw[zo,zW];by_cases h:i<l1.length
 .rw[Y (by simpa using h)];refine⟨zE (by show 72+i<300;omega),?_⟩;rw[show Nat.add 72 i=72+i from rfl,Zr I];show qn (if 72+i=60 then _ else if 72+i=61 then _ else if 72<=72+i/\72+i<77 then ZI l1 (72+i-72) else _)=_;rw[O I,O I,Y I,LA,kY,Ao h]
 .rw[O (by simpa using h)];refine⟨zE (by show 77+(i-l1.length)<300;omega),?_⟩;rw[show Nat.add 77 (Nat.sub i l1.length)=77+(i-l1.length) from rfl,Zr I];show qn (if 77+(i-l1.length)=60 then _ else if 77+(i-l1.length)=61 then _ else if 72<=77+(i-l1.length)/\77+(i-l1.length)<77 then _ else if 77<=77+(i-l1.length)/\77+(i-l1.length)<82 then ZI l2 (77+(i-l1.length)-77) else _)=_;rw[O I,O I,O I,Y I,LA,kY,Aj I]
def F5{x1 x2:Ej}{l1 l2:Eb}(h1:l1.length<=5)(h2:l2.length<=5)(b:kT w v1 l1 x1)(k2:kT w v2 l2 x2) :
  letI:=unkE x1 x2 l1.length l2.length l1 l2;ql prog (elT l1.length l2.length) w:=by
 letI:=unkE x1 x2 l1.length l2.length l1 l2;refine⟨λid=>some (Unk.place id),λ_ _=>rfl,λp hp=>?_⟩;rcases LJ.1 hp with hp|hp
 .refine tp (row:=60) (a:=72) b h1 rfl (λi hi=>?_) p hp;show(if 72+i=60 then _ else if 72+i=61 then _ else if 72<=72+i/\72+i<77 then ZI l1 (72+i-72) else _)=_;rw[O I,O I,Y I,LA]
 .refine tp (row:=61) (a:=77) k2 h2 rfl (λi hi=>?_) p hp;show(if 77+i=60 then _ else if 77+i=61 then _ else if 72<=77+i/\77+i<77 then _ else if 77<=77+i/\77+i<82 then ZI l2 (77+i-77) else _)=_;rw[O I,O I,O I,Y I,LA]
def Yl(R:zy)(hi:i<12):yS R (100+i)=R.at i:=by
 unfold yS;rw[Y I,LA]
def BB(R:zy)(hi:i<10):yS R (190+i) = .int .u64 ((R.els[i]?).getD 0:Nat):=by
 unfold yS;rw[O I,O I,O I,O I,Y I,LA]
def da(R:zy)(hi:i<10):yS R (200+i) = .string (str (put ((R.els[i]?).getD 0))):=by
 unfold yS;rw[O I,O I,O I,O I,O I,Y I,LA]
def BA(R:zy)(hi:i<39):yS R (212+i) = .string (str (first R++((ke R).take (i+1)).flatten)):=by
 unfold yS;rw[O I,O I,O I,O I,O I,O I,Y I,show 212+i-211=i+1 by omega]
def So(R:zy)(hi:i<39):yS R (252+i) = .int .i64 ((first R++((ke R).take (i+1)).flatten).length:Nat):=by
 unfold yS;rw[O I,O I,O I,O I,O I,O I,O I,Y I,show 252+i-251=i+1 by omega]
def FI[Unk]{R:zy}(h:Good R):Pw (yS R) (se R).pieces (ke R):=by
 obtain⟨d1,c2,c3,c4,c5,c6⟩:=h.chain;have s:∀id (b:Eb),100<=id->id<300->yS R id = .string (str b)->WF (B (yS R)) (.sym id)/\J (B (yS R)) (.sym id) = .string (str b):=λid b h1 h2 e=>⟨zE h2,zF h1 h2 e rfl⟩
 have c:∀n,n<256->WF (B (yS R)) (c1 n)/\J (B (yS R)) (c1 n) = .string (str [n]):=λn hn=>⟨by intro b hb;rw[Lu]at hb;omega,rfl⟩
 have t:∀b:ByteArray,Value.string b = .string (str (zG b)):=λb=>by rw[Qs]
 have L:∀(a:Nat) (l:Eb),(∀i,i<l.length->100<=a+i/\a+i<300/\yS R (a+i) = .string (str (put ((l[i]?).getD 0))))->Pw (yS R) (PJ a l.length) (l.map put):=by
  intro a l hl;refine⟨by unfold PJ;simp,λi p b k m=>?_⟩;unfold PJ at k;rw[Lw]at k m;obtain⟨j,u,rfl⟩:=LU.1 k;obtain⟨n,hn,rfl⟩:=LU.1 m;have f:i<l.length:=(LL.1 hn).1;rw[Ah f]at u;cases u;obtain⟨g1,x,v⟩:=hl i f;rw[hn]at v;exact s _ _ g1 x v
 have S:∀(z:Ee) (d s':Nat),100<=d->d<300->100<=s'->s'<300->yS R d = .string (str (put z.size))->yS R s' = .string z->Pw (yS R) (SA (decide (z.size=0)) d s') (ny (decide (z.size=0)) z):=by
  intro z d s' a1 T Q P k m;unfold SA ny;by_cases r:z.size=0
  .rw[Lx r,qX,Y rfl];exact Pw.cons (c 0 C) Pw.nil
  .rw[LC r,yy,O C];exact Pw.cons (s _ _ a1 T k) (Pw.cons (s _ _ Q P (by rw[m,<- t])) Pw.nil)
 have w:∀b:Bool,c1 (ifB b 1 0)=c1 (if b then 1 else 0):=λb=>by cases b<;>rfl
 have H:(zI R.up).length<=5:=c2;have y:(zI R.down).length<=5:=c3;unfold Sh.pieces ke;refine Pw.app ?_ (Pw.app (L 200 (zI R.up) λi hi=>⟨I,I,?_⟩) (Pw.app (Pw.cons (c _ (by show qj R.down<256;omega)) Pw.nil) (Pw.app (L (200+qj R.up) (zI R.down) λi hi=>⟨I,by unfold qj at c2 ⊢;omega,?_⟩) (Pw.app (S R.does 183 109 C C C C rfl rfl) (Pw.app (S R.at_ 184 110 C C C C rfl rfl) (Pw.cons ?_ Pw.nil))))))
 .refine Pw.cons (s 161 _ C C rfl) (Pw.cons (s 180 _ C C rfl) (Pw.cons (s 102 _ C C (t R.tenant)) (Pw.cons (s 162 _ C C rfl) (Pw.cons (s 181 _ C C rfl) (Pw.cons (s 104 _ C C (t R.action)) (Pw.cons (s 182 _ C C rfl)
   (Pw.cons (s 105 _ C C (t R.path)) (Pw.cons (s 163 _ C C rfl) (Pw.cons ?_ (Pw.cons (s 164 _ C C rfl) (Pw.cons (c _ (by show qj R.up<256;omega)) Pw.nil)))))))))))
  show WF _ (c1 (ifB R.granted 1 0))/\_;rw[show(se R).g=R.granted from rfl,w];exact c _ (by split<;>decide)
 .rw[da R I];show _=Value.string (str (put (((zI R.up)[i]?).getD 0)));unfold zy.els;rw[Ao hi]
 .unfold qj;unfold qj at c2;rw[show 200+(zI R.up).length+i=200+((zI R.up).length+i) by omega,da R I];unfold zy.els;rw[Aj I,LA]
 .rw[show(se R).dp=R.deep from rfl,w];exact c _ (by split<;>decide)
end
end EN
end
section
open Go.AuditPlain(put)
namespace EN
section
variable{R:zy}(hR:R.Ok)
include hR
theorem DW(h:Good R):(first R++(ke R).flatten).length<=6000:=by
 have h1:=tZ (ke R) (FJ hR h);have h2:=bY h;have h3:=JI (v:=R.number.toNat) (by have:=hR.number;omega);rw[Lm];show(put R.number.toNat).length+_<=_;omega
theorem oQ(h:Good R){x1 x2:Ej}(k1:kT w v1 (zI R.up) x1)(k2:kT w v2 (zI R.down) x2) :
  Calls prog 32 #[.agg (R.l1++v1::v2::R.l2).toArray] w λe w2=>Grown w w2/\∃u b,e = .returned u/\iz prog .u8 5 w w2 (str R.qC.bytes) u b:=by
 obtain⟨d1,c2,c3,c4,c5,c6⟩:=h.chain;have c2':(zI R.up).length<=5:=c2;have c3':(zI R.down).length<=5:=c3;have hver:=hR.version;have hses:=hR.session;have hday:=hR.day;have hnum:=hR.number;have huser:=hR.user;have hs1:=h.name.2.1;have hv0:=h.ver;let val:=yS R;letI:=unkE x1 x2 (zI R.up).length (zI R.down).length (zI R.up) (zI R.down);let x:=se R;have j:x.chk=true:=zfA h;unfold Sh.chk at j;rw[zl,Le]at j;obtain⟨hcl,j⟩:=j;have Q:=FI h;have hcount:=bY h;have r:x.pieces.length=(ke R).length:=Q.1;have hsize:=DW hR h
 have m:val x.last = .string (str R.qC.bytes):=by
  have e:x.last=212+(x.pieces.length-1):=by
   show 211+je x.pieces 0=_;rw[jV,r];have:12<=(ke R).length:=by unfold ke;simp only[Lm,Am,length_nil];omega
   omega
  have hp12:12<=(ke R).length:=by unfold ke;simp only[Lm,Am,length_nil];omega
  rw[e];show yS R _=_;rw[BA R I,r,show(ke R).length-1+1=(ke R).length by omega,take_length,show first R=put R.number.toNat from rfl,eS h]
 have hl1:100<=x.last:=by show 100<=211+_;omega
 have hl2:x.last<300:=by show 211+je x.pieces 0<300;rw[jV,r];omega
 have v:∀i,i<12->J (B val) (.sym (100+i))=R.at i:=λi hi=>zF I I (Yl R hi) (R.kept i);have w':∀i,i<300->WF (B val) (.sym i):=λi hi=>zE hi
 have hels:∀i:Nat,(R.els[i]?).getD 0<=63:=by
  intro i
  cases hg:R.els[i]? with
  | none=>exact zero_le _
  | some a=>exact c5 a (LX hg)
 have T:0<R.qC.bytes.length:=by
  rw[<- eS h,Lm];have:=Uh R.number.toNat;omega
 have d:zJ (J4 x.facts (elT x.k x.l)) (B val):=by
  intro f d;have d:f∈x.facts:=d;unfold Sh.facts at d;rcases zY d with d|d
  .exact ZQ (n:=R.number) ⟨C,C⟩ ⟨C,C⟩ ⟨C,C⟩ (Yl R (i:=0) C) rfl rfl I I f d
  rcases zY d with d|d
  .exact ZQ (n:=R.version) ⟨C,C⟩ ⟨C,C⟩ ⟨C,C⟩ (Yl R (i:=1) C) rfl rfl I I f d
  rcases zY d with d|d
  .exact ZQ (n:=R.day) ⟨C,C⟩ ⟨C,C⟩ ⟨C,C⟩ (Yl R (i:=6) C) rfl rfl I I f d
  rcases zY d with d|d
  .exact ZQ (n:=R.user) ⟨C,C⟩ ⟨C,C⟩ ⟨C,C⟩ (Yl R (i:=8) C) rfl rfl I I f d
  rcases zY d with d|d
  .simp only[zfC,Lf,Lq,Lo]at d;have p:J (B val) (.sym 103) = .int .i64 R.session:=v 3 C;have P:J (B val) (.sym 154) = .int .u64 (R.session.toNat:Nat):=zF C C (show val 154=_ from rfl) rfl;have e155:J (B val) (.sym 155) = .int .u64 (2*R.session.toNat:Nat):=zF C C (show val 155=_ from rfl) rfl;rcases d with rfl|rfl|rfl|rfl|rfl|rfl
   .exact Xx (w' 103 C) (w' 103 C) p p (rl I I)
   .exact Z2 (c:=0) (b:=false) (w' 103 C) p (by symm;rw[LH];omega)
   .refine Xx (n:=R.session) (w' 103 C) (w' 154 C) p ?_ (ee I I);rw[P,toNat_of_nonneg I]
   .exact zeg (w' 154 C) (w' 155 C) P e155 I
   .exact Xt C C C C (show val 155 = .int .u64 ((2*R.session.toNat:Nat):Int) from rfl) rfl I
   .exact Ua (v:=2*R.session.toNat) C C rfl
  rcases zY d with d|d
  .exact X0 (b:=R.tenant) ⟨C,C⟩ ⟨C,C⟩ ⟨C,C⟩ ⟨C,C⟩ (Yl R (i:=2) C) rfl rfl rfl (Uq h.name.1) (by have:=hR.tenant.Yo;omega) f d
  rcases zY d with d|d
  .exact X0 (b:=R.action) ⟨C,C⟩ ⟨C,C⟩ ⟨C,C⟩ ⟨C,C⟩ (Yl R (i:=4) C) rfl rfl rfl (Uq h.name.2.2.1) (by have:=hR.action.Yo;omega) f d
  rcases zY d with d|d
  .exact X0 (b:=R.path) ⟨C,C⟩ ⟨C,C⟩ ⟨C,C⟩ ⟨C,C⟩ (Yl R (i:=5) C) rfl rfl rfl (sD h.name.2.2.2.1) (by have:=hR.path.Yo;omega) f d
  rcases zY d with d|d
  .unfold BM at d;rw[zo]at d;split at d
   .cases d
   .rename_i y;have y:¬R.does.size=0:=λe=>y (Lx e);exact X0 (b:=R.does) ⟨C,C⟩ ⟨C,C⟩ ⟨C,C⟩ ⟨C,C⟩ (Yl R (i:=9) C) rfl rfl rfl I (by have:=hR.does.Yo;omega) f d
  rcases zY d with d|d
  .unfold BM at d;rw[zo]at d;split at d
   .cases d
   .rename_i y;have y:¬R.at_.size=0:=λe=>y (Lx e);exact X0 (b:=R.at_) ⟨C,C⟩ ⟨C,C⟩ ⟨C,C⟩ ⟨C,C⟩ (Yl R (i:=10) C) rfl rfl rfl I (by have:=hR.at_.Yo;omega) f d
  rcases zY d with d|d
  .simp only[Lf,Lq,Lo]at d;have e160:J (B val) (.sym 160) = .string (str (put R.number.toNat)):=zF C C (show val 160=_ from rfl) rfl;have H:J (B val) (.sym 251) = .int .i64 ((put R.number.toNat).length:Nat):=zF C C (show val 251=_ from rfl) rfl;have hn5:=JI (v:=R.number.toNat) I;rcases d with rfl|rfl|rfl
   .exact ax hl1 hl2 m (by rw[qA];exact T)
   .exact XR (w' 160 C) (w' 251 C) e160 (by rw[qA];exact H)
   .exact gl (w' 251 C) H I
  rcases zY d with d|d
  .unfold zgQ at d;obtain⟨i,hi,d⟩:=AE.1 d;have hi:i<(zI R.up).length+(zI R.down).length:=Lr.1 hi;obtain⟨g1,g2⟩:=zem (val:=val) (x1:=x1) (x2:=x2) c2' c3' hi;have hb:=hels i;simp only[Lf,Lq,Lo]at d;rcases d with rfl|rfl|rfl
   .exact Xx g1 (w' _ (by show 190+i<300;omega)) g2 (zF (by show 100<=190+i;omega) (by show 190+i<300;omega) (BB R I) rfl) (ee I (by show(((R.els[i]?).getD 0:Nat):Int)<_;omega))
   .exact Xt (u:=190+i) (t:=200+i) I I I I (BB R I) (da R I) I
   .exact Ua (q:=200+i) I I (da R I)
  .refine mq x.pieces (ke R) (.sym 160) 212 (first R) r Q.2 (w' 160 C) (zF C C (show val 160=_ from rfl) rfl) C (by rw[r];omega) (λi hi=>⟨BA R I,?_⟩) I f d;rw[show 212+40+i=252+i by omega];exact So R I
 have hg:qx x.g = .bool R.granted:=Z6 _;have hd:qx x.dp = .bool R.deep:=Z6 _;obtain⟨q1,q2⟩:=tm (val:=val) k1 (row:=60) C rfl;obtain⟨q3,q4⟩:=tm (val:=val) k2 (row:=61) C rfl
 have tx:∀(z:Ee) s,s<300->J (B val) (.sym s) = .string z->WF (B val) (txt (decide (z.size=0)) s)/\J (B val) (txt (decide (z.size=0)) s) = .string z:=by
  intro z s hs e;unfold txt;by_cases y:z.size=0
  .rw[Lx y,qX];refine⟨?_,?_⟩
   .intro b hb;cases hb
   .rw[(jH z).1 y];rfl
  .rw[LC y,yy];exact⟨w' s hs,e⟩
 obtain⟨t1,t2⟩:=tx R.does 109 C (v 9 C);obtain⟨t3,t4⟩:=tx R.at_ 110 C (v 10 C)
 have:=IX (val:=val) (E:=J4 x.facts (elT x.k x.l)) (w:=w) rfl (xl _ _) d hcl j hl1 hl2 m
  ⟨⟨w' 100 C,w' 101 C,w' 102 C,w' 103 C,w' 104 C,w' 105 C,w' 106 C,by rw[hg];trivial,w' 108 C,q1,q3,t1,t3,by rw[hd];trivial,trivial⟩,trivial⟩ (F5 c2' c3' k1 k2)
 have ea:(K (B val) [x.arg]).toArray = #[.agg (R.l1++v1::v2::R.l2).toArray]:=by
  unfold Sh.arg;rw[K,K,Z4];simp only[K];rw[hg,hd,v 0 C,v 1 C,v 2 C,v 3 C,v 4 C,v 5 C,v 6 C,v 8 C];rw[show lsV 60 x.k=lsV 60 (zI R.up).length from rfl,show lsV 61 x.l=lsV 61 (zI R.down).length from rfl,q2,q4,show txt x.e1 109=txt (decide (R.does.size=0)) 109 from rfl,show txt x.e2 110=txt (decide (R.at_.size=0)) 110 from rfl,t2,t4];rfl
 rw[ea]at this;exact this
end
end EN
end
namespace KT
open KS(oU dg Good)
def mb(m:Nat)(h e:Ek)(t:Nat):Nat:=if t<8 then[6,114,101,99,111,114,100,32].getD t 0 else if t<40 then h (t-8) else if t=40 then m else if t<41+m then e (t-41) else 0
def tb(t:Nat):Nat:=[5,116,114,97,105,108].getD t 0
def C3(h:∀x∈l,x<256)(t:Nat):l.getD t 0<256:=by
 rw[Aq]
 cases hx:l[t]? with
 | none=>decide
 | some x=>exact h x (LX hx)
def zgg{h e:Ek}(hm:m<256)(hh:∀i,h i<256)(he:∀i,e i<256)(t:Nat):mb m h e t<256:=by
 unfold mb;split
 .exact C3 C t
 .split
  .exact hh _
  .split
   .exact hm
   .split
    .exact he _
    .decide
def zfa(t:Nat):tb t<256:=C3 C t
def zB(n:Nat)(f:Ek):List Value:=(List.range n).map λi=>.int .u8 (f i:Nat)
def Ym(h e D:Ek)(id:Nat):Value:=if id<2500 then .int .u8 (e (id-2000):Nat) else if id<3300 then .int .u8 (h (id-2500):Nat) else .int .u8 (D (id-3300):Nat)
section
variable[Unk]{h e D:Ek}
def zjw(a:j<500):WF (KP.BN 6000 (Ym h e D)) (.sym (2000+j))/\J (KP.BN 6000 (Ym h e D)) (.sym (2000+j)) = .int .u8 (e j:Nat):=
 ⟨KP.jd I I,KP.kp I I (by unfold Ym;rw[Y I,LA]) rfl⟩
def zjn(a:j<500):WF (KP.BN 6000 (Ym h e D)) (.sym (2500+j))/\J (KP.BN 6000 (Ym h e D)) (.sym (2500+j)) = .int .u8 (h j:Nat):=
 ⟨KP.jd I I,KP.kp I I (by unfold Ym;rw[O I,Y I,LA]) rfl⟩
def zjx(a:j<500):WF (KP.BN 6000 (Ym h e D)) (.sym (3300+j))/\J (KP.BN 6000 (Ym h e D)) (.sym (3300+j)) = .int .u8 (D j:Nat):=
 ⟨KP.jd I I,KP.kp I I (by unfold Ym;rw[O I,O I,LA]) rfl⟩
def ot{a:Nat}(hs:∀j,j<n->WF g (.sym (a+j))/\J g (.sym (a+j)) = .int .u8 (f j:Nat)):WFs g ((List.range n).map λi=>KA.s a i)/\K g ((List.range n).map λi=>KA.s a i)=zB n f:=by
 constructor
 .rw[qb];intro v hv;obtain⟨i,hi,rfl⟩:=Lv.1 hv;exact(hs i (Lr.1 hi)).1
 .rw[zC,LZ];exact Ab λi hi=>(hs i (Lr.1 hi)).2
def PI(hm:m<500):WFs (KP.BN 6000 (Ym h e D)) (oS m)/\K (KP.BN 6000 (Ym h e D)) (oS m)=zB m e:=ot λj a=>zjw I
def Jm:WFs (KP.BN 6000 (Ym h e D)) fU/\K (KP.BN 6000 (Ym h e D)) fU=zB 32 h:=ot λj a=>zjn I
def bg:WFs (KP.BN 6000 (Ym h e D)) kF/\K (KP.BN 6000 (Ym h e D)) kF=zB 32 D:=ot λj a=>zjx I
def Vq(a:Inj)(l m:List G):K a (l++m)=K a l++K a m:=by rw[zC,zC,zC,Az]
def CA(m:Nat):(YP m).length=41+m:=by
 unfold YP;rw[zZ,zZ];unfold fU oS;simp only[Lm,Am,Ls,As,length_nil];omega
def zdK(hm:m<500):WFs (KP.BN 6000 (Ym h e D)) (YP m)/\K (KP.BN 6000 (Ym h e D)) (YP m)=zB (41+m) (mb m h e):=by
 obtain⟨j,g⟩:=PI (h:=h) (e:=e) (D:=D) hm;obtain⟨f,d⟩:=Jm (h:=h) (e:=e) (D:=D);unfold YP;rw[zZ,zZ];constructor
 .rw[qb];intro v hv;rcases LJ.1 hv with hv|hv
  .simp only[Lf,Lq,Lo]at hv;rcases hv with rfl|rfl|rfl|rfl|rfl|rfl|rfl|rfl<;>trivial
  .rcases LJ.1 hv with hv|hv
   .exact(qb _ _).1 f v hv
   .rcases Lf.1 hv with rfl|hv
    .trivial
    .exact(qb _ _).1 j v hv
 .rw[Vq,Vq,d,show ∀c,K c (c8 m::oS m)=J c (c8 m)::K c (oS m) from λc=>by rw[K],g];unfold zB;rw[show 41+m=8+(32+(1+m)) by omega,List.range_add,List.range_add (n:=32),List.range_add (n:=1)];simp only[Az,LZ];refine congr (congrArg (λ(a b:Ec)=>a++b) rfl) (congr (congrArg (λ(a b:Ec)=>a++b) ?_) ?_)
  .refine Ab λi hi=>?_;have hi:=Lr.1 hi;show Value.int .u8 (h i:Nat) = .int .u8 (mb m h e (8+i):Nat);unfold mb;rw[O I,Y I,LA]
  .show J _ (c8 m)::_=[_]++_;rw[singleton_append];refine congr (congrArg List.cons ?_) ?_
   .show Value.int .u8 (m:Nat) = .int .u8 (mb m h e (8+(32+0)):Nat);unfold mb;rw[O I,O I,Y I]
   .refine Ab λi hi=>?_;have hi:=Lr.1 hi;show Value.int .u8 (e i:Nat) = .int .u8 (mb m h e (8+(32+(1+i))):Nat);unfold mb;rw[O I,O I,O I,Y I,show 8+(32+(1+i))-41=i by omega]
end
section
variable{m:Nat}(hm:16<=m)(hm2:m<88){h e:Ek}(hh:∀i,h i<256)(he:∀i,e i<256)
include hm hm2 hh he
theorem zcR:@zu KP.unkK prog KP.tabs (@KP.BN KP.unkK 6000 (Ym h e (dg (41+m) (mb m h e)))) (Iz 82 (41+m) (YP m)):=by
 letI:=KP.unkK;obtain⟨f,r⟩:=zdK (h:=h) (e:=e) (D:=dg (41+m) (mb m h e)) (m:=m) I;obtain⟨d,p⟩:=bg (h:=h) (e:=e) (D:=dg (41+m) (mb m h e));unfold Iz;refine KS.Jq C KP.jL rfl rfl rfl ?_;refine Ut (l:=YP m) (l':=YP m) (CA m) (CA m) C (Lh _) (show WFs _ kF from d) f (λβ' h=>h.1.1) λβ' w x hle j g b hx a c=>?_;obtain⟨c1,c2⟩:=WFs.mono hle _ f;rw[c2,r]at a ⊢
 have n:(K β' [.slice 6000 0 (41+m) (41+m) false]).toArray = #[.slice (some ⟨x.1,x.2.1,none⟩) (41+m) ((41+m)+x.2.2)]:=by
  simp[K,J,Inj.addr,Inj.blk,Inj.sh,Inj.ext,hx]
 rw[n];have k:J β' (.agg kF) = .agg (oU (41+m) (mb m h e)).toArray:=by rw[J,(WFs.mono hle _ d).2,p];rfl
 rw[k];exact KS.rJ (.inr ⟨I,I⟩) (zgg I hh he) a b g
end
def Sr{f g t:Nat}(hT:zP T=true)(hm2:m<88){h e:Ek}(n:@zu KP.unkK prog T (@KP.BN KP.unkK 6000 (Ym h e (dg (41+m) (mb m h e)))) (Iz g (41+m) (YP m)))(a:Hb f g t T m=true)
  {w:Ea}{px hx ex:Ej} (hp:zx prog w px 51 [.slice (some ⟨hx.1,hx.2.1,none⟩) 32 32,.slice (some ⟨ex.1,ex.2.1,none⟩) m (m+ex.2.2)]) (hrh:zx prog w hx t (zB 32 h)) (hre:zx prog w ex 5 (zB m e))
  (d1:px.1≠hx.1) (d2:px.1≠ex.1) (d3:hx.1≠ex.1) (hs1:∀p∈T,p.1≠px.1) (hs2:∀p∈T,p.1≠hx.1) (hs3:∀p∈T,p.1≠ex.1) (ht:@ql KP.unkK prog T w) :
  Calls prog f #[.string (str cT),.slice (some ⟨px.1,px.2.1,none⟩) 2 2] w λo w2=>o = .returned (.agg (oU (41+m) (mb m h e)).toArray) /\
   (∀k,k<w.heap.size->k≠px.1->k≠hx.1->k≠ex.1->w2.heap[k]?=w.heap[k]?)/\w.heap.size<=w2.heap.size/\w2.tape=w.tape/\w2.os=w.os/\w2.output=w.output:=by
 letI:=KP.unkK;unfold Hb at a;let j:=E g (Nat.add 41 m) (YP m) T
 cases z:qL j (kh j 1000000) f [.str cT,.slice 6000 0 2 2 true] (jD j 6003 (rows t m)) with
 | none=>rw[show qL (E g (Nat.add 41 m) (YP m) T) (kh (E g (Nat.add 41 m) (YP m) T) 1000000) f [.str cT,.slice 6000 0 2 2 true] (jD (E g (Nat.add 41 m) (YP m) T) 6003 (rows t m))=none from z]at a;cases a
 | some p=>
  obtain⟨u,H'⟩:=p;rw[show qL (E g (Nat.add 41 m) (YP m) T) (kh (E g (Nat.add 41 m) (YP m) T) 1000000) f [.str cT,.slice 6000 0 2 2 true] (jD (E g (Nat.add 41 m) (YP m) T) 6003 (rows t m))=some (u,H') from z,ze]at a;have hu:u = .agg kF:=zV _ _ a;subst hu;let val:=Ym h e (dg (41+m) (mb m h e));let σ:=KP.Zm 6000 val
  let pl:Nat->Nat×Nat×Nat:=λid=>if id=6000 then px else if id=6001 then hx else ex
  let β:=qG σ 6000 3 pl
  have hle:(KP.BN 6000 val).le β:=kl C KP.ju;have b0:β 6000=some px:=qH C C;have b1:β 6001=some hx:=qH C C;have Q:β 6002=some ex:=qH C C;obtain⟨a1,a2⟩:=PI (h:=h) (e:=e) (D:=dg (41+m) (mb m h e)) (m:=m) I;obtain⟨a3,a4⟩:=Jm (h:=h) (e:=e) (D:=dg (41+m) (mb m h e));obtain⟨a5,a6⟩:=bg (h:=h) (e:=e) (D:=dg (41+m) (mb m h e))
  have v:FitA j:=(QA KP.yQ KP.JL (λp hp=>by
   have hp:p∈[((82:Eu),Spec.fact),((71:Eu),Spec.fact)]:=hp;simp only[Lf,Lq,Lo]at hp
   rcases hp with rfl|rfl<;>trivial)).toFitA
  have d:zJ j (KP.BN 6000 val):=by
   intro f d;have d:f∈[Iz g (Nat.add 41 m) (YP m)]:=d;rw[Lu]at d;subst d;exact n
  have H:∀p∈rows t m,6000<=p.1/\p.1<6000+3:=by
   intro p hp;simp only[rows,Lf,Lq,Lo]at hp;rcases hp with rfl|rfl|rfl
   .exact⟨by show 6000<=6000;omega,by show 6000<6003;omega⟩
   .exact⟨by show 6000<=6001;omega,by show 6001<6003;omega⟩
   .exact⟨by show 6000<=6002;omega,by show 6002<6003;omega⟩
  have c:WFs β (eW m)/\K β (eW m)=[.slice (some ⟨hx.1,hx.2.1,none⟩) 32 32,.slice (some ⟨ex.1,ex.2.1,none⟩) m (m+ex.2.2)]:=by
   refine⟨⟨⟨by rw[b1];rfl,Lh _⟩,⟨by rw[Q];rfl,Lh _⟩,trivial⟩,?_⟩;simp[eW,K,J,Inj.addr,Inj.blk,Inj.sh,Inj.ext,b1,Q]
  have:=Wf (E:=j) (σ:=σ) (N:=6000) (m:=3) (pl:=pl) v C KP.ju d (Vv rfl) hT ht H (λp hp=>by
   simp only[rows,Lf,Lq,Lo]at hp;rcases hp with rfl|rfl|rfl
   .exact zx.blk (l:=eW m) rfl c.1 (by rw[c.2];exact hp)
   .exact zx.blk (l:=fU) (by unfold fU;rw[Ls,As]) (WFs.mono hle _ a3).1 (by rw[(WFs.mono hle _ a3).2,a4];exact hrh)
   .exact zx.blk (l:=oS m) (by unfold oS;rw[Ls,As]) (WFs.mono hle _ a1).1 (by rw[(WFs.mono hle _ a1).2,a2];exact hre)) (λp hp q hq e=>by
   simp only[rows,Lf,Lq,Lo]at hp hq;rcases hp with rfl|rfl|rfl<;>rcases hq with rfl|rfl|rfl
   .rfl
   .exact Ld e d1
   .exact Ld e d2
   .exact Ld e.symm d1
   .rfl
   .exact Ld e d3
   .exact Ld e.symm d2
   .exact Ld e.symm d3
   .rfl) (λp hp q hq=>by
   simp only[rows,Lf,Lq,Lo]at hp;rcases hp with rfl|rfl|rfl
   .exact hs1 q hq
   .exact hs2 q hq
   .exact hs3 q hq) z ⟨(by intro b hb;simp only[cT,Lf,Lq,Lo]at hb;omega),⟨by show(β 6000).isSome=true;rw[b0];rfl,Lh _⟩,trivial⟩
  have ea:(K β [.str cT,.slice 6000 0 2 2 true]).toArray = #[.string (str cT),.slice (some ⟨px.1,px.2.1,none⟩) 2 2]:=by
   simp[K,J,Inj.addr,Inj.blk,Inj.sh,b0]
  rw[ea]at this;refine this.mono λo w2 hx=>?_;obtain⟨r,P,rfl,g1,g2,g3,_⟩:=hx;refine⟨?_,λk hk n1 n2 n3=>r.frame k hk λi i1 i2 e=>?_,r.size,r.tape,r.os,r.output⟩
  .have hlow:(KP.BN 6000 val).le P:=λid y x=>by
    have hid:id<6000:=by
     rcases LD id 6000 with h|h
     .exact h
     .rw[KP.UH C id h]at x;cases x
    rw[g2 id I];exact hle id y x
   have er:J P (.agg kF) = .agg (oU (41+m) (mb m h e)).toArray:=by rw[J,(WFs.mono hlow _ a5).2,a6];rfl
   rw[er]
  .have:i=6000\/i=6001\/i=6002:=by omega
   rcases this with rfl|rfl|rfl
   .exact n1 e.symm
   .exact n2 e.symm
   .exact n3 e.symm
open KS(oU dg Good)
def zbo{f g t:Nat}(h1:gJ f g t T ((List.range 24).map λk=>Nat.add 16 k)=true)(h2:gJ f g t T ((List.range 24).map λk=>Nat.add 40 k)=true)(h3:gJ f g t T ((List.range 24).map λk=>Nat.add 64 k)=true)(hm:16<=m)(hm2:m<88):Hb f g t T m=true:=by
 have key:∀(l:Eb),gJ f g t T l=true->∀m∈l,Hb f g t T m=true:=λl h m hm=>KP.W6 (p:=Hb f g t T) (l:=l) h m hm;rcases LD m 40 with h|h
 .exact key _ h1 m (Lv.2 ⟨m-16,Lr.2 I,by show 16+(m-16)=m;omega⟩)
 .rcases LD m 64 with h'|h'
  .exact key _ h2 m (Lv.2 ⟨m-40,Lr.2 I,by show 40+(m-40)=m;omega⟩)
  .exact key _ h3 m (Lv.2 ⟨m-64,Lr.2 I,by show 64+(m-64)=m;omega⟩)
noncomputable def Wl(m:Nat)(h e:Ek):Nat->Nat:=dg (41+m) (mb m h e)
section
variable{m:Nat}(hm:16<=m)(hm2:m<88){h e:Ek}(hh:∀i,h i<256)(he:∀i,e i<256){w:Ea}{px hx ex:Ej}(hp:zx prog w px 51 [.slice (some ⟨hx.1,hx.2.1,none⟩) 32 32,.slice (some ⟨ex.1,ex.2.1,none⟩) m (m+ex.2.2)])
 (hre:zx prog w ex 5 (zB m e)) (d1:px.1≠hx.1) (d2:px.1≠ex.1) (d3:hx.1≠ex.1)
include hm hm2 hh he hp hre d1 d2 d3
theorem ziK(d:zx prog w hx 29 (zB 32 h))(c:∀p∈KP.tabs,p.1≠px.1)(b:∀p∈KP.tabs,p.1≠hx.1)(a:∀p∈KP.tabs,p.1≠ex.1)(f:@ql KP.unkK prog KP.tabs w) :
  Calls prog 31 #[.string (str cT),.slice (some ⟨px.1,px.2.1,none⟩) 2 2] w λo w2=>o = .returned (.agg (zB 32 (Wl m h e)).toArray) /\
   (∀k,k<w.heap.size->k≠px.1->k≠hx.1->k≠ex.1->w2.heap[k]?=w.heap[k]?)/\w.heap.size<=w2.heap.size/\w2.tape=w.tape/\w2.os=w.os/\w2.output=w.output:=
 Sr KP.jL hm2 (zcR hm hm2 hh he) (zbo zgp zgo zgn hm hm2) hp d hre d1 d2 d3 c b a f
end
def Ks(n:Nat)(f:Ek)(a:j<n):(zB n f)[j]?=some (.int .u8 (f j:Nat)):=by
 unfold zB;rw[Lw,Ah a];rfl
def qT(n:Nat)(f:Ek):(zB n f).length=n:=by unfold zB;rw[Ls,As]
def sG(hi:i<6):byteOf sH i=tb i:=by
 have:i=0\/i=1\/i=2\/i=3\/i=4\/i=5:=by omega
 rcases this with rfl|rfl|rfl|rfl|rfl|rfl<;>rfl
section
variable[Unk]
def Mx(h:zO prog g (.pack 5 6 sH) x w):zx prog w x 5 (zB 6 tb):=by
 obtain⟨arr,fz,h1,h2⟩:=h;refine⟨arr,fz,h1,by rw[qT];exact h2.size,h2.thaw,h2.al,λj a=>?_⟩;rw[qT]at a;rw[Ks 6 tb a];have:=(h2.cell j _ (by rw[Yh,Y a])).2;rw[this,sG a];rfl
def I0(h:zx prog w x 5 (zB 6 tb)):zO prog g (.pack 5 6 sH) x w:=by
 obtain⟨arr,fz,h1,h2,h3,b,a⟩:=h;rw[qT]at h2 a;refine⟨arr,fz,h1,h2,λi v hv=>?_,h3,b⟩;rw[Yh]at hv;split at hv
 .rename_i hi;cases hv;refine⟨trivial,?_⟩;rw[a i hi,Ks 6 tb hi,sG hi];rfl
 .cases hv
end
def Fg{f g:Nat}(Q:zP T=true)(a:zet f g T=true)
  (hsum:∀(w:Ea) (x:Ej),zx prog w x 5 (zB 6 tb)->(∀p∈T,p.1≠x.1)->@ql KP.unkK prog T w->Calls prog g #[.slice (some ⟨x.1,x.2.1,none⟩) 6 (6+x.2.2)] w λe w2=>e = .returned (.agg (zB 32 (dg 6 tb)).toArray)/\zx prog w2 x 5 (zB 6 tb) /\
   (∀k,k<w.heap.size->k≠x.1->w2.heap[k]?=w.heap[k]?)/\w.heap.size<=w2.heap.size/\w2.tape=w.tape/\w2.os=w.os/\w2.output=w.output)
  {w:Ea} (r:@ql KP.unkK prog T w):Calls prog f #[.string (str Xd),.slice none 0 0] w λo w2=>Grown w w2/\o = .returned (.agg (zB 32 (dg 6 tb)).toArray):=by
 letI:=KP.unkK;unfold zet at a
 cases t:qL (ET g T) (kh (ET g T) 1000000) f [.str Xd,.nilslice] (jt (ET g T) 6000) with
 | none=>rw[t]at a;cases a
 | some p=>
  obtain⟨u,H'⟩:=p;rw[t,ze]at a;have hu:u = .agg kF:=zV _ _ a;subst hu;let val:=Ym tb tb (dg 6 tb);obtain⟨H,a6⟩:=bg (h:=tb) (e:=tb) (D:=dg 6 tb)
  have l:Fit (ET g T):=QA KP.yQ KP.JL (λp hp=>by
   have hp:p∈[((82:Eu),Spec.fact),((71:Eu),Spec.fact)]:=hp;simp only[Lf,Lq,Lo]at hp
   rcases hp with rfl|rfl<;>trivial)
  have c:zJ (ET g T) (KP.BN 6000 val):=by
   intro f c;have c:f∈[zcQ g]:=c;rw[Lu]at c;subst c;unfold zcQ;refine KS.Jq C Q rfl rfl rfl ?_;refine M9 C (Lh _) (show WFs _ kF from H) (λβ' h=>h.1.1) λβ' w x hle hat r d hx j v=>?_
   have ea:(K β' [.slice 6000 0 6 6 false]).toArray = #[.slice (some ⟨x.1,x.2.1,none⟩) 6 (6+x.2.2)]:=by
    simp[K,J,Inj.addr,Inj.blk,Inj.sh,Inj.ext,hx]
   have z:J β' (.agg kF) = .agg (zB 32 (dg 6 tb)).toArray:=by rw[J,(WFs.mono hle _ H).2,a6]
   rw[ea,z];refine(hsum w x (Mx j) d r).mono λe w2 hq=>?_;obtain⟨q1,q2,q3⟩:=hq;exact⟨q1,I0 q2,q3⟩
  have:=jC l C KP.ju c Q t ⟨(by intro b hb;simp only[Xd,Lf,Lq,Lo]at hb;omega),trivial,trivial⟩ r;refine Calls.mono (show Calls prog f #[.string (str Xd),.slice none 0 0] w _ from this) λo w2 hx=>?_;obtain⟨hg,P,rfl,g1,g2,_⟩:=hx;refine⟨hg,?_⟩
  have hlow:(KP.BN 6000 val).le P:=λid y n=>by
   have hid:id<6000:=by
    rcases LD id 6000 with h|h
    .exact h
    .rw[KP.UH C id h]at n;cases n
   rw[g2 id hid];exact n
  have z:J P (.agg kF) = .agg (zB 32 (dg 6 tb)).toArray:=by rw[J,(WFs.mono hlow _ H).2,a6]
  rw[z]
def zcN(a:@ql KP.unkK prog KP.tabs w):Calls prog 31 #[.string (str Xd),.slice none 0 0] w λo w2=>Grown w w2/\o = .returned (.agg (zB 32 (dg 6 tb)).toArray):=
 Fg KP.jL ziZ (λw x b hs a=>KS.rJ (.inl rfl) zfa b hs a) a
end KT
noncomputable section
open Go.AuditPlain(put)
abbrev Ent:=zy×Value×Value
namespace TR
open KS(dg)
open KT(zB Wl tb)
def yX(e:Ent):List Value:=e.1.l1++e.2.1::e.2.2::e.1.l2
def Jw(e:Ent):(yX e).length=14:=rfl
def cellsOf(es:List Ent):List Value:=es.flatMap yX
def yA(es:List Ent):(cellsOf es).length=14*es.length:=by
 unfold cellsOf
 induction es with
 | nil=>rfl
 | cons e es a=>rw[flatMap_cons,Lm,a,Jw,Am];omega
def XG(es:List Ent)(e:Ent):cellsOf (es++[e])=cellsOf es++yX e:=by unfold cellsOf;rw[List.flatMap_append,List.flatMap_singleton]
def lB(s:Ee)(i:Nat):Nat:=match s.data[i]? with|some c=>c.toNat|none=>0
def IW(s:Ee)(i:Nat):lB s i<256:=by
 unfold lB;split
 .exact UInt8.toNat_lt _
 .decide
def Mh(R:zy)(i:Nat):Nat:=lB (str R.qC.bytes) i
def ft(h:Ek)(R:zy):Nat->Nat:=Wl R.qC.bytes.length h (Mh R)
def ja(Rs:List zy):Nat->Nat:=Rs.foldl ft (dg 6 tb)
def uj(a:List zy)(R:zy):ja (a++[R])=ft (ja a) R:=by unfold ja;rw[List.foldl_append];rfl
def JN(Rs:List zy):List Value:=(List.range (32*(Rs.length+1))).map λi=>.int .u8 (ja (Rs.take (i / 32)) (i % 32):Nat)
def Kf(a:List zy)(R:zy):JN (a++[R])=JN a++zB 32 (ja (a++[R])):=by
 unfold JN zB;rw[Lm,show 32*(a.length+[R].length+1)=32*(a.length+1)+32 by simp;omega,List.range_add,Az,LZ];congr 1
 .refine Ab λi hi=>?_;have hi:=Lr.1 hi;rw[take_append_of_le_length I]
 .refine Ab λi hi=>?_;have hi:=Lr.1 hi;show Value.int .u8 (ja ((a++[R]).take ((32*(a.length+1)+i) / 32)) ((32*(a.length+1)+i) % 32):Nat)=_;rw[show(32*(a.length+1)+i) / 32=a.length+1 by omega,show(32*(a.length+1)+i) % 32=i by omega,AO Oc]
def wW(a:List zy):(List.range 32).map (λi=>Value.int .u8 (ja (a.take ((32*a.length+i) / 32)) ((32*a.length+i) % 32):Nat))=zB 32 (ja a):=by
 unfold zB;refine Ab λi hi=>?_;have hi:=Lr.1 hi;rw[show(32*a.length+i) / 32=a.length by omega,show(32*a.length+i) % 32=i by omega,take_length]
def Zw(w:Ea)(es:List Ent):Prop:=∀e∈es,AtS w e.2.1 e.1.up/\AtS w e.2.2 e.1.down
def ZD(w:Ea)(t:Eg)(v:Ei)(es:List Ent):Prop:=
 (es=[]->v = .slice none 0 0)/\(es≠[]->∃x:Nat×Nat×Nat,v = .slice (some ⟨x.1,x.2.1,none⟩) es.length (es.length+x.2.2)/\zx prog w x t (cellsOf es))
structure qm(B:Em)(w:Ea)(v:Ei)(es:List Ent):Prop where
 ex:∃(x h:Ej) (r:Ei),v = .pointer (some ⟨x.1,x.2.1,none⟩)/\zx prog w x 96 [r,.slice (some ⟨h.1,h.2.1,none⟩) (es.length+1) (es.length+1+h.2.2)]/\zx prog w h 29 (JN (es.map (·.1)))/\ZD w 42 r es/\B x.1/\B h.1/\∀p n m,r = .slice (some p) n m->B p.block
 lists:Zw w es
structure qh(w w2:Ea):Prop where
 old:∀(c:Nat) (arr:Eh) (t:Eg) (fz:Nat×Nat),w.heap[c]?=some (Obj.cells arr t fz)->t≠96->t≠42->t≠29->t≠86->w2.heap[c]?=w.heap[c]?
 size:w.heap.size<=w2.heap.size
 tape:w2.tape=w.tape
 os:w2.os=w.os
 output:w2.output=w.output
def qh.zH(h:Grown w w2):qh w w2:=
 ⟨λc arr t fz h1 _ _ _ _=>h.old c (LO.1 h1).1,h.size,h.tape,h.os,h.output⟩
def ba{o:En}(h:AtS w v o)(a:∀(c:Nat) (arr:Eh) (fz:Nat×Nat),w.heap[c]?=some (Obj.cells arr 3 fz)->w2.heap[c]?=w.heap[c]?):AtS w2 v o:=by
 cases o with
 | none=>exact h
 | some s=>
  obtain⟨x,arr,fz,k⟩:=h;exact⟨x,arr,fz,k.is,by rw[a _ _ _ k.row];exact k.row,k.cap,k.size,k.cell,k.thaw⟩
def qh.atS(k:qh w w2){o:En}(h:AtS w v o):AtS w2 v o:=
 ba h λc arr fz e=>k.old c arr 3 fz e C C C C
def qh.lists(k:qh w w2){es:List Ent}(h:Zw w es):Zw w2 es:=λe he=>⟨k.atS (h e he).1,k.atS (h e he).2⟩
def Xa(B:Em)(w w2:Ea):Prop:=(∀(c:Nat) (arr:Eh) (t:Eg) (fz:Nat×Nat),w.heap[c]?=some (Obj.cells arr t fz)->t≠96->t≠42->t≠29->w2.heap[c]?=w.heap[c]?)/\∀c,c<w.heap.size->¬B c->w2.heap[c]?=w.heap[c]?
def m9(v:Ei)(w w2:Ea):Prop:=∀(c:Nat),c<w.heap.size->(∀(p:Addr) (n m:Nat),v = .slice (some p) n m->p.block≠c)->w2.heap[c]?=w.heap[c]?
def zx.lt(h:zx P w x t a):x.1<w.heap.size:=by
 obtain⟨arr,fz,h1,_⟩:=h;exact(LO.1 h1).1
def zx.ne{y:Ej}{u:Eg}{c:Ec}(h:zx P w x t c)(k:zx P w y u us)(a:t≠u):x.1≠y.1:=by
 obtain⟨arr,fz,h1,_⟩:=h;obtain⟨b,f,d,_⟩:=k;intro e;rw[e,d]at h1;simp only[Ag,Obj.cells.injEq]at h1;exact a h1.2.1.symm
def qi(g:Grown w w2)(h:zx prog w x t a):zx prog w2 x t a:=@zx.heap unk0 _ _ _ _ _ _ h (g.old _ (zx.lt h))
def Kh(g:Grown w w2){es:List Ent}(h:ZD w t v es):ZD w2 t v es:=
 ⟨h.1,λhn=>by obtain⟨x,e,k⟩:=h.2 hn;exact⟨x,e,qi g k⟩⟩
def Yg{B:Em}(g:Grown w w2){es:List Ent}(h:qm B w v es):qm B w2 v es:=by
 obtain⟨⟨x,hd,r,h1,h2,h3,a⟩,b⟩:=h;exact⟨⟨x,hd,r,h1,qi g h2,qi g h3,Kh g a.1,a.2⟩,(qh.zH g).lists b⟩
def bars(x R:zy):Prop:=x.tenant=R.tenant/\(R.version<x.version\/x.version=R.version/\x.day≠R.day)
open Classical in
def ji(Rs:List zy)(R:zy):Nat:=
 if R.number≠(Rs.length+1:Nat)\/R.version<0\/30000<R.day then 2 else if R.err≠0 then R.err else if ∃x∈Rs,bars x R then 7 else 0
def uf{a:List zy}{R:zy}(hR:R.Ok)(h:ji a R=0):EN.Good R/\R.number=(a.length+1:Nat)/\R.day<=30000/\∀x∈a,¬bars x R:=by
 unfold ji at h;split at h
 .cases h
 .rename_i h1;split at h
  .rename_i h2;exact Ld h h2
  .rename_i h2;split at h
   .cases h
   .rename_i h3;have h2:R.err=0:=Classical.not_not.1 h2;refine⟨⟨hR,?_,h2⟩,Classical.byContradiction λhn=>h1 (.inl hn),?_,λx hx hb=>h3 ⟨x,hx,hb⟩⟩
    .rcases Int.lt_or_le R.version 0 with hh|hh
     .exact Ld (.inr (.inl hh)) h1
     .exact hh
    .rcases Int.lt_or_le 30000 R.day with hh|hh
     .exact Ld (.inr (.inr hh)) h1
     .exact hh
def SW{v:Nat}(h:v<16384):(put v).length<=2:=by
 by_cases h1:v<128 ^ 1
 .rw[GR.Jh (c:=0) h1 (.inl rfl)];exact(by decide:1<=2)
 .rw[GR.Jh (c:=1) (show v<128 ^ 2 from h) (.inr I)];exact(by decide:2<=2)
def FG{v:Nat}(h:v<128):(put v).length=1:=by rw[Ui h];rfl
def Ur{s:Ee}(h:isN s=true):s.size<=12:=by
 have hm:=EN.dD (show yd (zG s) Xp=true from h);have a:(Xp.all λl=>Nat.ble l.length 12)=true:=U;have:=Nat.ble_eq.mp (Ad.1 a _ hm);rwa[zR]at this
def sE{s:Ee}(h:isP s=true):s.size<=6:=by
 have hm:=EN.dD (show yd (zG s) Xm=true from h);have a:(Xm.all λl=>Nat.ble l.length 6)=true:=U;have:=Nat.ble_eq.mp (Ad.1 a _ hm);rwa[zR]at this
def eQ:∀(l:Eb),(∀a∈l,a<=63)->(AuditPlain.qf l).length=l.length
 | [],_=>rfl
 | a::l,h=>by
  have h1:=h a LG;have:=eQ l λb hb=>h b (LP _ hb);unfold AuditPlain.qf at this ⊢;rw[flatMap_cons,Lm,this,FG I,Am];omega
def bu{R:zy}(hR:R.Ok)(h:EN.Good R)(hd:R.day<=30000):16<=R.qC.bytes.length/\R.qC.bytes.length<88:=by
 obtain⟨_,c2,c3,c4,c5,n⟩:=h.chain;obtain⟨n1,n2,d,c,i⟩:=h.name;have g:=FG (v:=R.number.toNat) (by have:=hR.number;omega);have m:=EN.JI (v:=R.version.toNat) (by have:=hR.version;omega);have f:=EN.Uh R.version.toNat;have k:=SX (v:=R.day.toNat) (by have:=hR.day;omega);have j:=SW (v:=R.user.toNat) (by have:=hR.user;omega);have e:=EN.Uh R.user.toNat
 have b:∀ {s:Ee},s.size<128->(zm (zG s)).length=1+s.size:=λ{s} hs=>by
  unfold AuditPlain.zm;rw[Lm,zR,FG hs]
 have nl:∀l:List Nat,l.length<=5->(∀a∈l,a<=63)->(numbers l).length=1+l.length:=λl h1 h2=>by
  unfold AuditPlain.numbers;rw[Lm,eQ l h2,FG I]
 have hs:(qs R.session).length=1:=by
  have:=h.name.2.1;unfold AuditPlain.qs AuditPlain.zig;rw[Y I];exact FG (by have:=hR.session;omega)
 have t1:=EN.Uq n1;have t2:=Ur n1;have r:=EN.Uq d;have p:=Ur d;have p1:=EN.sD c;have p2:=sE c;have s1:=hR.at_.JB;unfold qj at c2 c3
 show 16<=(put R.number.toNat++(put R.version.toNat++(zm (zG R.tenant)++(qs R.session++(zm (zG R.action)++(zm (zG R.path)++(put R.day.toNat++(zT R.granted ++
  (put R.user.toNat++(numbers (zI R.up)++(numbers (zI R.down)++(zm (zG R.does)++(zm (zG R.at_)++zT R.deep))))))))))))).length/\(put R.number.toNat++(put R.version.toNat++(zm (zG R.tenant)++(qs R.session++(zm (zG R.action)++(zm (zG R.path)++(put R.day.toNat++(zT R.granted ++
  (put R.user.toNat++(numbers (zI R.up)++(numbers (zI R.down)++(zm (zG R.does)++(zm (zG R.at_)++zT R.deep))))))))))))).length<88
 simp only[Lm];rw[g,hs,b (s:=R.tenant) I,b (s:=R.action) I,b (s:=R.path) I,b (s:=R.does) I,b (s:=R.at_) I,nl _ c2 (λa ha=>c5 a (List.mem_append_left _ ha)),nl _ c3 (λa ha=>c5 a (Ay _ ha)),Ya,Ya];omega
end TR
end
namespace TR
def jl(b:Nat):∀(c:Ec) (o:Nat) (w:Ea) (arr:Eh) (t:Eg) (fz:Nat×Nat),w.heap[b]?=some (.cells arr t fz)->o+c.length<=arr.size ->
  ∃a,(w.setCells b o c).heap[b]?=some (.cells a t fz)/\a.size=arr.size/\(∀j,j<c.length->a[o+j]?=c[j]?)/\∀i,i<o\/o+c.length<=i->a[i]?=arr[i]?
 | [],o,w,arr,t,fz,h,_=>⟨arr,h,rfl,λj d=>Ld d (not_lt_zero _),λ_ _=>rfl⟩
 | v::r,o,w,arr,t,fz,h,hs=>by
  have hs:o+(r.length+1)<=arr.size:=hs
  have h1:(w.setCell ⟨b,o,none⟩ v).heap[b]?=some (.cells (arr.setIfInBounds o v) t fz):=by
   unfold World.setCell;rw[AD,Y rfl,h];rfl
  obtain⟨a,g1,f,g,e⟩:=jl b r (o+1) _ _ t fz h1 (by rw[AM];omega);rw[AM]at f;refine⟨a,g1,f,λj d=>?_,λi hi=>?_⟩
  .cases j with
   | zero=>
    rw[Nat.add_zero,e o I,getElem?_setIfInBounds_self,Y I]
    rfl
   | succ j=>
    have:=g j (by simpa using d);rw[show o+(j+1)=o+1+j by omega,this];rfl
  .have hi:i<o\/o+(r.length+1)<=i:=hi;rw[e i I,AN,O I]
def kA(b:Nat):∀(a:Ec) (o:Nat) (w:Ea),(w.setCells b o a).heap.size=w.heap.size
 | [],_,_=>rfl
 | v::r,o,w=>by
  refine(kA b r (o+1) _).trans ?_;unfold World.setCell;exact size_modify
def kz(b:Nat):∀(a:Ec) (o:Nat) (w:Ea),(w.setCells b o a).tape=w.tape
 | [],_,_=>rfl
 | _::r,o,_=>kz b r (o+1) _
def cell_of_row(h:zx prog w x t a)(b:a[j]?=some v):w.cell? ⟨x.1,x.2.1+j,none⟩=some v:=by
 obtain⟨arr,fz,h1,h2,h3,d,c⟩:=h;unfold World.cell?;rw[h1];exact(c j (LL.1 b).1).trans b
def vA:qS prog 86=14:=U
def under25:Tryz.prog.underlying 25=some (.slice 86):=U
def aN{es:List Ent}(hl:∀e∈es,e.2.1.oneCell'=true/\e.2.2.oneCell'=true):∀v∈cellsOf es,v.oneCell'=true:=by
 intro v hv;obtain⟨e,he,hv⟩:=AE.1 hv;obtain⟨h1,h2⟩:=hl e he;have hv:v∈([_,_,_,_,_,_,_,_,_,_,_,_,_,_]:List Value):=hv;simp only[Lf,Lq,Lo]at hv;rcases hv with rfl|rfl|rfl|rfl|rfl|rfl|rfl|rfl|rfl|rfl|rfl|rfl|rfl|rfl<;>first|rfl|exact h1|exact h2
structure Je(v:Ei)(w w2:Ea):Prop where
 Jl:m9 v w w2
 size:w.heap.size<=w2.heap.size
 tape:w2.tape=w.tape
 os:w2.os=w.os
 output:w2.output=w.output
def Im{R:zy}(h1:AtS w v1 R.up)(h2:AtS w v2 R.down):∀v∈yX (R,v1,v2),v.oneCell'=true:=by
 obtain⟨p1,c1,b⟩:=h1.slice;obtain⟨p2,c2,a⟩:=h2.slice;have:=aN (es:=[(R,v1,v2)]) (λe he=>by rw[Lu]at he;subst he;exact⟨by show v1.oneCell'=true;rw[b];rfl,by show v2.oneCell'=true;rw[a];rfl⟩);intro v hv;exact this v (by unfold cellsOf;rw[List.flatMap_singleton];exact hv)
def DT(w:Ea){ops:Ep}{rest:Er}{o:Oper}{a:Act}{Q:Eo}(s x:Ev)(b:Nat){d:List Ent}{R:zy}
  (hg:o.guard=none) (hop:o.op=Op.call { callee:=Callee.builtin Builtin.append,args:=#[s,x],argTypes:=#[25,25] }) (hrows:ZD w 86 (a.eval s) d) (few:d.length<=7)
  (hx:a.eval x = .slice (some ⟨b,0,none⟩) 1 1) (hbox:zx prog w (b,0,0) 86 (yX (R,v1,v2))) (hone:∀v∈yX (R,v1,v2),v.oneCell'=true)
  (hK:∀q c w',ZD w' 86 (.slice (some q) (d.length+1) c) (d++[(R,v1,v2)])->(w.heap.size<=q.block\/∃p n m,a.eval s = .slice (some p) n m/\p.block=q.block)->Je (a.eval s) w w'->wpList prog ops Q rest (a.put o.dst (.slice (some q) (d.length+1) c)) w') :
  wpList prog ops Q (o::rest) a w:=by
 obtain⟨i,hi⟩:∃i,Tryz.prog.info? 86=some i:=LM.1 U;have H:(Tryz.prog.info? 86).map (·.size)=some 14:=U;have k2:(Tryz.prog.info? 86).map (λi=>Nat.ble i.bytes 1000)=some true:=U;have k3:((Tryz.prog.info? 86).bind (·.zero)).map (λz=>z.cells.size)=some 14:=U;rw[hi]at H k2 k3;have H:i.size=14:=Aa H;have k2:i.bytes<=1000:=Nat.ble_eq.mp (Aa k2);obtain⟨z,hz,P⟩:=LU.1 k3;have hz:i.zero=some z:=hz;have hb2:(d.length+1)*i.bytes<=140737488355328:=Lj (Nat.mul_le_mul (show d.length+1<=8 by omega) k2) C;have hb1:d.length+1<=maxLen:=by unfold maxLen;omega
 have hn:(yX (R,v1,v2)).length=1*14:=rfl
 have hc:∀(j:Nat) (u:Ei),(yX (R,v1,v2))[j]?=some u->w.cell? ((⟨b,0,none⟩:Addr).add j)=some u:=by
  intro j u f;have:=cell_of_row hbox f;rw[Addr.add_lit];exact this
 have grown:∀v' w',w'.ownsRow w.heap.size 86 14 v' (d.length+1) (cellsOf d++yX (R,v1,v2))->w.grownBy w' none->wpList prog ops Q rest (a.put o.dst v') w':=by
  intro v' w' ho k;obtain⟨_,⟨_,h0⟩|⟨g,cap,cur,rfl,h1,h2,h3,_,h5,h6⟩⟩:=ho
  .omega
  .refine hK _ _ w' ⟨λh=>Ld (congrArg List.length h) Oc,λ_=>⟨(g,0,cap-(d.length+1)),?_,cur,(0,0),h2,?_,λi _ h=>I,Nat.dvd_zero _,λj f=>?_⟩⟩ (.inl h1) ⟨λc hc _=>k.block c hc Oc,k.size,k.tape,k.os,k.output⟩
   .rw[Lm,show d.length+[(R,v1,v2)].length+(cap-(d.length+1))=cap by simp;omega];rfl
   .rw[yA,vA,Lm,h5];show 0+14*(d.length+1)+(cap-(d.length+1))*14<=cap*14;omega
   .rw[XG,<- h6]at f ⊢;rw[Lz];rw[getElem?_take,Y (by rw[Ar]at f;omega),LV]
 by_cases he:d=[]
 .subst he;have hs:a.eval s = .slice none 0 0:=hrows.1 rfl;exact wpList_append_grows w hg s x 25 hop 86 i z 14 i.bytes under25 hi hz H rfl P C none 0 0 [] hs (λ_=>⟨rfl,rfl⟩) rfl (λb h=>by cases h) _ 1 1 _ hx hn hc hone C hb1 hb2 grown
 .obtain⟨y,hs,l⟩:=hrows.2 he;have t:=l;obtain⟨arr,fz,r1,r2,r3,r4,r5⟩:=t;rw[yA,vA]at r2;have hold:∀(j:Nat) (u:Ei),(cellsOf d)[j]?=some u->w.cell? ⟨y.1,y.2.1+j,none⟩=some u:=λj u f=>cell_of_row l f;refine wpList_append_arg w hg s x 25 hop 86 i z 14 i.bytes under25 hi hz H rfl P C y.1 y.2.1 d.length (d.length+y.2.2) (cellsOf d) hs (by rw[yA,Nat.mul_comm]) hold _ 1 1 _ hx hn hc hone (λhr j f=>?_) hb1 hb2 (λhr=>?_) λ_=>grown
  .have f:j<14:=f;have T:y.2.1+d.length*14+j<arr.size:=by omega
   refine⟨?_,?_⟩
   .unfold World.cell?;rw[r1];show(arr[y.2.1+d.length*14+j]?).isSome=true;rw[Av T];rfl
   .unfold World.frozen?;rw[r1];have:=r3 _ T;show(decide (fz.1<=y.2.1+d.length*14+j)&&decide (y.2.1+d.length*14+j<fz.2))=false;rw[AG,LH,LH];omega
  .have hsz:y.2.1+d.length*14+(yX (R,v1,v2)).length<=arr.size:=by rw[hn];omega
   obtain⟨r,g1,g2,g3,g4⟩:=jl y.1 (yX (R,v1,v2)) (y.2.1+d.length*14) w arr 86 fz r1 hsz;refine hK _ _ _ ⟨λh=>Ld (congrArg List.length h) Oc,λ_=>⟨(y.1,y.2.1,y.2.2-1),?_,r,fz,g1,?_,λi hi=>r3 i I,r4,λj f=>?_⟩⟩ (.inr ⟨_,_,_,hs,rfl⟩) ⟨λc hc hne=>?_,?_,kz _ _ _ _,?_,?_⟩
   .rw[Lm,show d.length+[(R,v1,v2)].length+(y.2.2-1)=d.length+y.2.2 by simp;omega];rfl
   .rw[yA,vA,Lm,g2];show y.2.1+14*(d.length+1)+(y.2.2-1)*14<=arr.size;omega
   .rw[XG];rw[yA,Lm]at f;have f:j<14*(d.length+1):=f;show r[y.2.1+j]?=_;rcases LD j (14*d.length) with h|h
    .rw[Ao (by rw[yA];exact h),g4 _ I];exact r5 j (by rw[yA];exact h)
    .rw[Aj (by rw[yA];exact h),yA];have:=g3 (j-14*d.length) (by rw[hn];omega);rw[show y.2.1+d.length*14+(j-14*d.length)=y.2.1+j by omega]at this;exact this
   .refine heap_setCells_other w _ _ _ hc λe=>hne _ _ _ hs e.symm
   .rw[kA];exact Lh _
   .exact os_setCells _ _ _ _
   .exact output_setCells _ _ _ _
end TR
noncomputable section
def JV[Unk]{N:Nat}{val:El}{g:Nat}(a:g<100):KP.BN N val g=some (Unk.place g):=by
 show zQ (KP.Zm N val) g=_;unfold zQ;rw[Y a]
def kG(w:Ea):Prop:=zx prog w (1,0,0) 401 (KP.rounds.map λn=>.int .u64 (Int.ofNat n))/\zx prog w (2,0,0) 403 (KP.turns.map λn=>.int .i64 (Int.ofNat n))
def Jt[Unk](a:Inj)(k:Et)(l:Eb):WFs a (l.map λn=>.int k (Int.ofNat n))/\K a (l.map λn=>.int k (Int.ofNat n))=l.map λn=>.int k (Int.ofNat n):=by
 constructor
 .rw[qb];intro v hv;obtain⟨n,_,rfl⟩:=Lv.1 hv;trivial
 .rw[zC,LZ];rfl
def Fj[Unk](h:kG w):∀p∈KP.tabs,zO prog g p.2 (p.1,0,0) w:=by
 intro p hp;simp only[KP.tabs,Lf,Lq,Lo]at hp;rcases hp with rfl|rfl
 .exact zx.blk (by rfl) (Jt g .u64 KP.rounds).1 (by rw[(Jt g .u64 KP.rounds).2];exact h.1)
 .exact zx.blk (by rfl) (Jt g .i64 KP.turns).1 (by rw[(Jt g .i64 KP.turns).2];exact h.2)
def VQ:∀p∈KP.tabs,p.1<60:=by
 intro p hp;simp only[KP.tabs,Lf,Lq,Lo]at hp;rcases hp with rfl|rfl
 .exact(by decide:1<60)
 .exact(by decide:2<60)
theorem WU[Unk]{w:Ea}(h:kG w):ql prog KP.tabs w:=
 ⟨λid=>some (Unk.place id),λ_ _=>rfl,λp hp=>by rw[Unk.glob p.1 (VQ p hp)];exact Fj h p hp⟩
def nk[Unk](h:ql prog KP.tabs w):kG w:=by
 obtain⟨a,h1,h2⟩:=h;have g1:=h2 (1,_) LG;have b:=h2 (2,_) (LP _ LG);rw[Unk.glob 1 C]at g1;rw[Unk.glob 2 C]at b;refine⟨?_,?_⟩
 .have:=zx.of (by rfl) g1;rwa[(Jt a .u64 KP.rounds).2]at this
 .have:=zx.of (by rfl) b;rwa[(Jt a .i64 KP.turns).2]at this
def kG.Jl(h:kG w)(k:TR.qh w w2):kG w2:=by
 obtain⟨⟨arr,fz,d,f⟩,⟨a,b,c,e⟩⟩:=h;exact⟨⟨arr,fz,by rw[k.old _ _ _ _ d C C C C];exact d,f⟩,⟨a,b,by rw[k.old _ _ _ _ c C C C C];exact c,e⟩⟩
namespace AP
open TR
open KT(zB)
instance:Inhabited zy:=⟨⟨0,0,.empty,0,.empty,.empty,0,false,0,none,none,.empty,.empty,false⟩⟩
def aJ(v:Ei):Value:=if JJ v=true then v else .int .u8 0
def lP(v:Ei):JJ (aJ v)=true:=by
 unfold aJ;by_cases h:JJ v=true
 .rw[Y h];exact h
 .rw[O h];rfl
def W9(h:JJ v=true):aJ v=v:=Y h
def opq(es:List Ent)(g:Nat):Value:=aJ (if g % 2=0 then((es[(g-72) / 2]?).getD default).2.1 else((es[(g-72) / 2]?).getD default).2.2)
@[reducible] def unkA (x1 x2:Ej) (s1 s2:Ee) (es:List Ent):Unk where
 val i:=opq es (i-1000)
 plain i:=lP _
 place g:=if g=60 then x1 else if g=61 then x2 else if g=70 then Zs s1 else if g=71 then Zs s2 else if 72<=g/\g<100 then(1000+g,0,0) else(g,0,0)
 glob g hg:=by rw[O I,O I,O I,O I,O I]
def jK(es:List Ent)(j:Nat):zy:=((es[j]?).getD default).1
def val(R:zy)(s1 s2:Ee)(es:List Ent)(id:Nat):Value:=
 if id<2012 then R.at (id-2000)
 else if 2100<=id/\id<2300 then(jK es ((id-2100) / 20)).at ((id-2100) % 20)
 else if 2500<=id/\id<3300 then .int .u8 (ja ((es.map (·.1)).take ((id-2500) / 32)) ((id-2500) % 32):Nat)
 else if 3300<=id then .int .u8 (ja (es.map (·.1)++[R]) (id-3300):Nat)
 else if 2040<=id/\id<2050 then .string (str (jK es (id-2040)).qC.bytes)
 else match id with
 | 2050=>.string (str R.qC.bytes)|2060=>.int .i64 (R.err:Nat)|2061=>.int .i64 (R.ZM:Nat)|2070=>.int .i64 (s1.size:Nat)|_=>.int .i64 (s2.size:Nat)
def W7{o:En}(h:AtS w v o):JJ v=true:=by
 obtain⟨p,c,e⟩:=h.slice;rw[e];rfl
section
variable{R:zy}{s1 s2:Ee}{es:List Ent}
section
variable[Unk]
def ZT(hi:i<12):WF (KP.BN 6000 (val R s1 s2 es)) (nf i):=KP.jd (by show 100<=2000+i;omega) (by show 2000+i<6000;omega)
def ZU(hi:i<12):J (KP.BN 6000 (val R s1 s2 es)) (nf i)=R.at i:=
 KP.kp (by show 100<=2000+i;omega) (by show 2000+i<6000;omega) (by show val R s1 s2 es (2000+i)=_;unfold val;rw[Y I,LA]) (R.kept i)
def yP(a:j<9)(hi:i<12):WF (KP.BN 6000 (val R s1 s2 es)) (of j i):=KP.jd (by show 100<=2100+20*j+i;omega) (by show 2100+20*j+i<6000;omega)
def XQ(a:j<9)(hi:i<12):J (KP.BN 6000 (val R s1 s2 es)) (of j i)=(jK es j).at i:=
 KP.kp (by show 100<=2100+20*j+i;omega) (by show 2100+20*j+i<6000;omega) (by
  show val R s1 s2 es (2100+20*j+i)=_;unfold val
  rw[O I,Y I,show(2100+20*j+i-2100) / 20=j by omega,show(2100+20*j+i-2100) % 20=i by omega]) ((jK es j).kept i)
def YJ{id:Nat}(h1:100<=id)(h2:id<6000):WF (KP.BN 6000 (val R s1 s2 es)) (.sym id):=KP.jd h1 h2
def Vm(k:Nat)(a:k<=9):WFs (KP.BN 6000 (val R s1 s2 es)) (ZJ k):=by
 rw[qb];intro v hv;obtain⟨i,hi,rfl⟩:=Lv.1 hv;have hi:i<32*(k+1):=Lr.1 hi;exact YJ (by show 100<=2500+i;omega) (by show 2500+i<6000;omega)
def Wu(hi:i<800):J (KP.BN 6000 (val R s1 s2 es)) (.sym (2500+i)) = .int .u8 (ja ((es.map (·.1)).take (i / 32)) (i % 32):Nat):=
 KP.kp I I (by unfold val;rw[O I,O I,Y I,LA]) rfl
def Jm(a:es.length<=9):K (KP.BN 6000 (val R s1 s2 es)) (ZJ es.length)=JN (es.map (·.1)):=by
 unfold ZJ JN;rw[zC,LZ,Ls];refine Ab λi hi=>?_;have hi:i<32*(es.length+1):=Lr.1 hi;exact Wu I
def TA(k:Nat)(a:k<=9):WFs (KP.BN 6000 (val R s1 s2 es)) (ZX k):=by
 rw[qb];intro v hv;obtain⟨i,hi,rfl⟩:=Lv.1 hv;have hi:=Lr.1 hi;exact YJ (by show 100<=2500+32*k+i;omega) (by show 2500+32*k+i<6000;omega)
def TD(a:es.length<=9):K (KP.BN 6000 (val R s1 s2 es)) (ZX es.length)=zB 32 (ja (es.map (·.1))):=by
 rw[<- wW,Ls];unfold ZX;rw[zC,LZ];refine Ab λi hi=>?_;have hi:=Lr.1 hi;show J _ (.sym (2500+32*es.length+i))=_;rw[show 2500+32*es.length+i=2500+(32*es.length+i) by omega,Wu I]
def xr:WFs (KP.BN 6000 (val R s1 s2 es)) gz:=by
 rw[qb];intro v hv;obtain⟨i,hi,rfl⟩:=Lv.1 hv;have hi:=Lr.1 hi;exact YJ (by show 100<=3300+i;omega) (by show 3300+i<6000;omega)
def bg:K (KP.BN 6000 (val R s1 s2 es)) gz=zB 32 (ja (es.map (·.1)++[R])):=by
 unfold gz zB;rw[zC,LZ];refine Ab λi hi=>?_;have hi:=Lr.1 hi;refine KP.kp (by show 100<=3300+i;omega) (by show 3300+i<6000;omega) ?_ rfl;show val R s1 s2 es (3300+i)=_;unfold val;rw[O I,O I,O I,Y I,LA]
def Vy(k:Nat)(R:zy):Nat:=if R.number≠(k+1:Nat) then 0 else if R.version<0 then 1 else if 30000<R.day then 2 else 3
def ZQ{tabs:List (Nat×X)}(hR:R.Ok)(k:Nat):∀f∈ZR k (Vy k R),zu prog tabs (KP.BN 6000 (val R s1 s2 es)) f:=by
 have p:=ZT (R:=R) (s1:=s1) (s2:=s2) (es:=es) (i:=0) C;have e:=ZT (R:=R) (s1:=s1) (s2:=s2) (es:=es) (i:=1) C;have d:=ZT (R:=R) (s1:=s1) (s2:=s2) (es:=es) (i:=6) C;have r:=ZU (R:=R) (s1:=s1) (s2:=s2) (es:=es) (i:=0) C;have n:=ZU (R:=R) (s1:=s1) (s2:=s2) (es:=es) (i:=1) C;have m:=ZU (R:=R) (s1:=s1) (s2:=s2) (es:=es) (i:=6) C;have hv:=hR.version;have hd:=hR.day;have g1:∀b:Bool,b=(R.number==((k+1:Nat):Int))->zu prog tabs (KP.BN 6000 (val R s1 s2 es)) (.eq 1 (nf 0) (qc (Nat.succ k)) b):=λb hb=>JQ p trivial r (show J _ (qc (Nat.succ k)) = .int .i64 ((k+1:Nat):Int) from rfl) hb;have c:∀b:Bool,b=decide (R.version<((0:Nat):Int))->zu prog tabs (KP.BN 6000 (val R s1 s2 es)) (.bin .lss (nf 1) (qc 0) (qx b)):=λb hb=>Z2 e n hb;have l:zu prog tabs (KP.BN 6000 (val R s1 s2 es)) (.bin .gtr (nf 1) (qc 2147483647) (.bool false)):=yB (b:=false) e n (by symm;rw[LH];omega);have j:zu prog tabs (KP.BN 6000 (val R s1 s2 es)) (.bin .lss (nf 6) (qc 0) (.bool false)):=Z2 (b:=false) d m (by symm;rw[LH];omega);have g:∀b:Bool,b=decide (((30000:Nat):Int)<R.day)->zu prog tabs (KP.BN 6000 (val R s1 s2 es)) (.bin .gtr (nf 6) (qc 30000) (qx b)):=λb hb=>yB d m hb;intro f a;unfold Vy at a;split at a
 .rename_i h;have a:f∈[Fact.eq 1 (nf 0) (qc (Nat.succ k)) false]:=a;rw[Lu]at a;subst a;exact g1 _ (by symm;simpa using h)
 .rename_i h;have h:R.number=(k+1:Nat):=Classical.not_not.1 h;split at a
  .rename_i h2;have a:f∈[Fact.eq 1 (nf 0) (qc (Nat.succ k)) true,.bin .lss (nf 1) (qc 0) (qx true)]:=a;simp only[Lf,Lq,Lo]at a;rcases a with rfl|rfl
   .exact g1 _ (by symm;simpa using h)
   .exact c _ (by symm;rw[Lk];omega)
  .rename_i h2;split at a
   .rename_i h3;have a:f∈[Fact.eq 1 (nf 0) (qc (Nat.succ k)) true,.bin .lss (nf 1) (qc 0) (qx false),.bin .gtr (nf 1) (qc 2147483647) (.bool false),.bin .lss (nf 6) (qc 0) (.bool false),.bin .gtr (nf 6) (qc 30000) (qx true)]:=a;simp only[Lf,Lq,Lo]at a;rcases a with rfl|rfl|rfl|rfl|rfl
    .exact g1 _ (by symm;simpa using h)
    .exact c _ (by symm;rw[LH];omega)
    .exact l
    .exact j
    .exact g _ (by symm;rw[Lk];omega)
   .rename_i h3;have a:f∈[Fact.eq 1 (nf 0) (qc (Nat.succ k)) true,.bin .lss (nf 1) (qc 0) (qx false),.bin .gtr (nf 1) (qc 2147483647) (.bool false),.bin .lss (nf 6) (qc 0) (.bool false),.bin .gtr (nf 6) (qc 30000) (qx false)]:=a;simp only[Lf,Lq,Lo]at a;rcases a with rfl|rfl|rfl|rfl|rfl
    .exact g1 _ (by symm;simpa using h)
    .exact c _ (by symm;rw[LH];omega)
    .exact l
    .exact j
    .exact g _ (by symm;rw[LH];omega)
def KL{tabs:List (Nat×X)}(a:j<9)(hb:¬TR.bars (jK es j) R):∃alt∈ways j,∀f∈alt,zu prog tabs (KP.BN 6000 (val R s1 s2 es)) f:=by
 have t1:∀b:Bool,b=decide ((jK es j).tenant=R.tenant)->zu prog tabs (KP.BN 6000 (val R s1 s2 es)) (.eq 2 (of j 2) (nf 2) b):=λb hb=>XS (yP a C) (ZT C) (XQ a C) (ZU C) hb
 have t2:¬R.version<(jK es j).version->zu prog tabs (KP.BN 6000 (val R s1 s2 es)) (.bin .gtr (of j 1) (nf 1) (.bool false)):=λh=>by
  refine j8 (k:=.i64) (j:=.i64) (m:=(jK es j).version) (n:=R.version) (yP a C) (ZT C) trivial (XQ a C) (ZU C) (v:=j7 (ilt R.version (jK es j).version)) rfl ?_;rw[Zi,yx,LC h]
 have t3:∀b:Bool,b=((jK es j).version==R.version)->zu prog tabs (KP.BN 6000 (val R s1 s2 es)) (.eq 1 (of j 1) (nf 1) b):=λb hb=>JQ (yP a C) (ZT C) (XQ a C) (ZU C) hb;have t4:∀b:Bool,b=((jK es j).day==R.day)->zu prog tabs (KP.BN 6000 (val R s1 s2 es)) (.eq 1 (of j 6) (nf 6) b):=λb hb=>JQ (yP a C) (ZT C) (XQ a C) (ZU C) hb;by_cases h1:(jK es j).tenant=R.tenant
 .have h2:¬R.version<(jK es j).version:=λh=>hb ⟨h1,.inl h⟩;by_cases h3:(jK es j).version=R.version
  .have d:(jK es j).day=R.day:=Classical.byContradiction λh=>hb ⟨h1,.inr ⟨h3,h⟩⟩;refine⟨_,LP _ (LP _ LG),λf c=>?_⟩;simp only[Lf,Lq,Lo]at c;rcases c with rfl|rfl|rfl|rfl
   .exact t1 _ (by symm;simpa using h1)
   .exact t2 h2
   .exact t3 _ (by symm;simpa using h3)
   .exact t4 _ (by symm;simpa using d)
  .refine⟨_,LP _ LG,λf c=>?_⟩;simp only[Lf,Lq,Lo]at c;rcases c with rfl|rfl|rfl
   .exact t1 _ (by symm;simpa using h1)
   .exact t2 h2
   .exact t3 _ (by symm;simpa using h3)
 .refine⟨_,LG,λf c=>?_⟩;rw[Lu]at c;subst c;exact t1 _ (by symm;simpa using h1)
def UW{tabs:List (Nat×X)}(a:j<9)(hb:TR.bars (jK es j) R):∃i,i<2/\∃f,yG i (AP.bars j)=some f/\∀g∈f,zu prog tabs (KP.BN 6000 (val R s1 s2 es)) g:=by
 obtain⟨h1,h2⟩:=hb;have t1:zu prog tabs (KP.BN 6000 (val R s1 s2 es)) (.eq 2 (of j 2) (nf 2) true):=XS (yP a C) (ZT C) (XQ a C) (ZU C) (by symm;simpa using h1)
 have t2:∀b:Bool,b=decide (R.version<(jK es j).version)->zu prog tabs (KP.BN 6000 (val R s1 s2 es)) (.bin .gtr (of j 1) (nf 1) (.bool b)):=λb h=>by
  refine j8 (k:=.i64) (j:=.i64) (m:=(jK es j).version) (n:=R.version) (yP a C) (ZT C) trivial (XQ a C) (ZU C) (v:=j7 (ilt R.version (jK es j).version)) rfl ?_;rw[Zi,yx,h]
 by_cases h3:R.version<(jK es j).version
 .refine⟨0,C,_,rfl,λf c=>?_⟩;simp only[Lf,Lq,Lo]at c;rcases c with rfl|rfl
  .exact t1
  .exact t2 _ (by symm;simpa using h3)
 .rcases h2 with h2|⟨h2,d⟩
  .exact Ld h2 h3
  .refine⟨1,C,_,rfl,λf c=>?_⟩;simp only[Lf,Lq,Lo]at c;rcases c with rfl|rfl|rfl|rfl
   .exact t1
   .exact t2 _ (by symm;simpa using h3)
   .exact JQ (yP a C) (ZT C) (XQ a C) (ZU C) (by symm;simpa using h2)
   .exact JQ (yP a C) (ZT C) (XQ a C) (ZU C) (by symm;simpa using d)
end
end
end AP
end
namespace AP
open TR
open KT(zB Wl)
def WX[Unk]{N:Nat}{val:El}{o:En}{s:Ee}(h:Slot w v o x s){b q:Nat}(hb:b<100)(hq:q<100)(e:Unk.place b=x)(d:Unk.place q=Zs s) :
  WF (KP.BN N val) (Cs b q (cnt o))/\J (KP.BN N val) (Cs b q (cnt o))=v:=by
 cases o with
 | none=>exact⟨trivial,(h.none_ rfl).symm⟩
 | some t=>
  obtain⟨rfl,arr,fz,hx⟩:=h.some_ t rfl;have a:KP.BN N val b=some x:=by rw[JV hb,e]
  have c:J (KP.BN N val) (.sym q) = .string s:=by
   show qn ((KP.BN N val q).getD (0,0,0))=_;rw[JV hq,d,LW,kW]
  refine⟨⟨by rw[a];rfl,by show(KP.BN N val q).isSome=true;rw[JV hq];rfl,s,c,by simp only[Inj.ext,a];exact hx.cap⟩,?_⟩;show J (KP.BN N val) (.osl b (.sym q))=v;rw[J,c,hx.is];simp[sOf,Inj.addr,Inj.blk,Inj.sh,Inj.ext,a]
structure Two(w:Ea)(R:zy)(v1 v2:Ei)(x1 x2:Ej)(s1 s2:Ee):Prop where
 a:Slot w v1 R.up x1 s1
 b:Slot w v2 R.down x2 s2
section
variable{R:zy}{s1 s2:Ee}{es:List Ent}{v1 v2:Ei}{x1 x2:Ej}{w0:Ea}(hR:R.Ok)(h2:Two w0 R v1 v2 x1 x2 s1 s2)
include hR h2
theorem Jy(g:@ql (unkA x1 x2 s1 s2 es) prog (zX (jz (cnt R.up) (cnt R.down)) T) w):AtS w v1 R.up/\AtS w v2 R.down/\@ql (unkA x1 x2 s1 s2 es) prog T w:=by
 letI:=unkA x1 x2 s1 s2 es;obtain⟨d,e,h⟩:=g;have c:∀p∈jz (cnt R.up) (cnt R.down)++T,zO prog d p.2 (Unk.place p.1) w:=by rw[<- zZ];exact h
 have f:∀p∈iI 60 70 (cnt R.up)++iI 61 71 (cnt R.down),zO prog d p.2 (Unk.place p.1) w:=λp hp=>c p (List.mem_append_left _ (by unfold jz;rw[zZ];exact hp));exact⟨B8 h2.a e (b:=60) (q:=70) C rfl rfl λp hp=>f p (List.mem_append_left _ hp),B8 h2.b e (b:=61) (q:=71) C rfl rfl λp hp=>f p (Ay _ hp),⟨d,e,λp hp=>c p (Ay _ hp)⟩⟩
theorem ak(e:@ql (unkA x1 x2 s1 s2 es) prog T w0):@ql (unkA x1 x2 s1 s2 es) prog (zX (jz (cnt R.up) (cnt R.down)) T) w0:=by
 letI:=unkA x1 x2 s1 s2 es;obtain⟨d,c,f⟩:=e;refine⟨d,c,λp hp=>?_⟩;rcases zY hp with hp|hp
 .unfold jz at hp;rcases zY hp with hp|hp
  .exact YH h2.a c (b:=60) (q:=70) C rfl rfl p hp
  .exact YH h2.b c (b:=61) (q:=71) C rfl rfl p hp
 .exact f p hp
theorem Qu:letI:=unkA x1 x2 s1 s2 es
  WF (KP.BN 6000 (val R s1 s2 es)) (ZL (cnt R.up) (cnt R.down))/\J (KP.BN 6000 (val R s1 s2 es)) (ZL (cnt R.up) (cnt R.down)) = .agg (R.l1++v1::v2::R.l2).toArray:=by
 letI:=unkA x1 x2 s1 s2 es;obtain⟨q1,q2⟩:=WX (N:=6000) (val:=val R s1 s2 es) h2.a (b:=60) (q:=70) C C rfl rfl;obtain⟨d,c⟩:=WX (N:=6000) (val:=val R s1 s2 es) h2.b (b:=61) (q:=71) C C rfl rfl;have w:∀i,i<12->WF (KP.BN 6000 (val R s1 s2 es)) (nf i):=λi hi=>ZT hi;have e:∀i,i<12->J (KP.BN 6000 (val R s1 s2 es)) (nf i)=R.at i:=λi hi=>ZU hi;refine⟨⟨w 0 C,w 1 C,w 2 C,w 3 C,w 4 C,w 5 C,w 6 C,w 7 C,w 8 C,q1,d,w 9 C,w 10 C,w 11 C,trivial⟩,?_⟩;unfold ZL;rw[Z4];simp only[K];rw[q2,c,e 0 C,e 1 C,e 2 C,e 3 C,e 4 C,e 5 C,e 6 C,e 7 C,e 8 C,e 9 C,e 10 C,e 11 C];rfl
theorem Kp{T:List (Nat×X)}{r:G}:letI:=unkA x1 x2 s1 s2 es
  WF (KP.BN 6000 (val R s1 s2 es)) r->J (KP.BN 6000 (val R s1 s2 es)) r = .int .i64 (R.err:Nat) ->
  zu prog (zX (jz (cnt R.up) (cnt R.down)) T) (KP.BN 6000 (val R s1 s2 es)) (Kq (cnt R.up) (cnt R.down) r):=by
 letI:=unkA x1 x2 s1 s2 es;intro hw b;obtain⟨q1,q2⟩:=Qu (es:=es) hR h2;refine⟨⟨q1,trivial⟩,hw,λw a=>?_⟩;obtain⟨f,d,_⟩:=Jy hR h2 a
 have c:(K (KP.BN 6000 (val R s1 s2 es)) [ZL (cnt R.up) (cnt R.down)]).toArray = #[.agg (R.l1++v1::v2::R.l2).toArray]:=by
  rw[K,q2];rfl
 rw[c,b];exact(CK.xI hR f d).mono λe w2 hx=>⟨hx.2,hx.1⟩
theorem PH{T:List (Nat×X)}(c:EN.Good R):letI:=unkA x1 x2 s1 s2 es
  zu prog (zX (jz (cnt R.up) (cnt R.down)) T) (KP.BN 6000 (val R s1 s2 es)) (zel (cnt R.up) (cnt R.down)):=by
 letI:=unkA x1 x2 s1 s2 es;obtain⟨q1,q2⟩:=Qu (es:=es) hR h2;refine mj (s:=str R.qC.bytes) ⟨q1,trivial⟩ C (YJ C C) (KP.kp C C (show val R s1 s2 es 2050=_ from rfl) rfl) (λw b=>?_);obtain⟨f,e,_⟩:=Jy hR h2 b;obtain⟨h,a⟩:=CK.kP hR.up f;obtain⟨g,k2⟩:=CK.kP hR.down e
 have d:(K (KP.BN 6000 (val R s1 s2 es)) [ZL (cnt R.up) (cnt R.down)]).toArray = #[.agg (R.l1++v1::v2::R.l2).toArray]:=by
  rw[K,q2];rfl
 rw[d];exact EN.oQ hR c a k2
theorem Vf{T:List (Nat×X)}:letI:=unkA x1 x2 s1 s2 es
  ∀f∈zX (kO (cnt R.up) 70 2070) (kO (cnt R.down) 71 2071),zu prog T (KP.BN 6000 (val R s1 s2 es)) f:=by
 letI:=unkA x1 x2 s1 s2 es
 have key:∀(o:En) (v:Ei) (x:Ej) (s:Ee) (q n:Nat),Qc o->Slot w0 v o x s->q<100->100<=n->n<6000->Unk.place q=Zs s->val R s1 s2 es n = .int .i64 (s.size:Nat)->∀f∈kO (cnt o) q n,zu prog T (KP.BN 6000 (val R s1 s2 es)) f:=by
  intro o v x s q n hs e hq n1 n2 k m f c
  cases o with
  | none=>cases c
  | some t=>
   obtain⟨rfl,_⟩:=e.some_ t rfl;have d:=hs s rfl;have hw:WF (KP.BN 6000 (val R s1 s2 es)) (.sym q):=by show(KP.BN 6000 (val R s1 s2 es) q).isSome=true;rw[JV hq];rfl
   have j:J (KP.BN 6000 (val R s1 s2 es)) (.sym q) = .string s:=by
    show qn ((KP.BN 6000 (val R s1 s2 es) q).getD (0,0,0))=_;rw[JV hq,k,LW,kW]
   have i:J (KP.BN 6000 (val R s1 s2 es)) (.sym n) = .int .i64 (s.size:Nat):=KP.kp n1 n2 m rfl;have c:f∈[Fact.eq 2 (.sym q) (.str []) false,.len (.sym q) (.sym n),.bin .gtr (.sym n) (.int .i64 (.ofNat 100000000)) (.bool false)]:=c;simp only[Lf,Lq,Lo]at c;have g:0<s.size:=d.1
   have l:s.size<=64:=by
    rcases d.2 with h|h
    .omega
    .rw[h];decide
   rcases c with rfl|rfl|rfl
   .refine XS hw (by intro b hb;cases hb) j rfl ?_;symm;rw[LH];intro h;rw[h]at g;cases g
   .exact XR hw (YJ n1 n2) j i
   .exact gl (YJ n1 n2) i I
 intro f c;rcases zY c with c|c
 .exact key R.up v1 x1 s1 70 2070 hR.up h2.a C C C rfl rfl f c
 .exact key R.down v2 x2 s2 71 2071 hR.down h2.b C C C rfl rfl f c
end
open TR
open KT(zB Wl)
def Yw(c:List zy)(i:Nat):ja c i<256:=by
 have hd:∀n b,KS.dg n b i<256:=λn b=>by unfold KS.dg;exact Af _ C
 rcases eq_nil_or_concat c with rfl|⟨l,a,rfl⟩
 .exact hd _ _
 .rw[concat_eq_append,uj];exact hd _ _
def Dj(n m:En):zP (zX (jz (cnt n) (cnt m)) KP.tabs)=true:=by
 cases n<;>cases m
 .exact(by kernel_rfl:zP (zX (jz 0 0) KP.tabs)=true)
 .exact(by kernel_rfl:zP (zX (jz 0 1) KP.tabs)=true)
 .exact(by kernel_rfl:zP (zX (jz 1 0) KP.tabs)=true)
 .exact(by kernel_rfl:zP (zX (jz 1 1) KP.tabs)=true)
def nN(R:zy)(i:Nat):Mh R i<256:=IW _ _
def VP[Unk]{v:G}{s:Ee}(h:zO prog g (.text 5 v) x w)(hs:J g v = .string s):s.size<=x.2.2/\zx prog w (x.1,x.2.1,x.2.2-s.size) 5 (zB s.size (lB s)):=by
 obtain⟨arr,fz,h1,h2⟩:=h;obtain⟨s',b,c⟩:=h2.is;rw[hs]at b;cases b;refine⟨c,arr,fz,h1,?_,h2.thaw,by rw[bV];exact Nat.one_dvd _,λj a=>?_⟩
 .show x.2.1+(zB s.size (lB s)).length+(x.2.2-s.size)*qS prog 5<=arr.size;rw[KT.qT,bV];have:=h2.size;omega
 .rw[KT.qT]at a;rw[KT.Ks _ _ a];have hc:s.data[j]?=some (s.data[j]' a):=Av a;have:=h2.cell j _ (by rw[hs];exact hc);show arr[x.2.1+j]?=_;rw[this];unfold lB;rw[hc]
section
variable{R:zy}{s1 s2:Ee}{es:List Ent}{v1 v2:Ei}{x1 x2:Ej}{w0:Ea}(hR:R.Ok)(h2:Two w0 R v1 v2 x1 x2 s1 s2)
include hR h2
theorem Iu(hg:EN.Good R)(hd:R.day<=30000)(P:es.length<=9):letI:=unkA x1 x2 s1 s2 es
  zu prog (zX (jz (cnt R.up) (cnt R.down)) KP.tabs) (KP.BN 6000 (val R s1 s2 es)) (Sv es.length):=by
 letI:=unkA x1 x2 s1 s2 es;obtain⟨m1,m2⟩:=bu hR hg hd;unfold Sv;refine KS.Jq C (Dj _ _) rfl rfl rfl ?_
 have u:∀p∈ll es.length,p=(6000,X.cells 51 2 (M.ofList [.slice 6001 0 32 32 true,.osl 6002 (.sym 2050)]))\/p=(6001,X.cells 29 32 (M.ofList (ZX es.length)))\/p=(6002,X.text 5 (.sym 2050)):=by
  intro p hp;simpa only[ll,Lf,Lq,Lo] using hp
 have n:((6000,X.cells 51 2 (M.ofList [.slice 6001 0 32 32 true,.osl 6002 (.sym 2050)])):Nat×X)∈ll es.length:=LG;have z:((6001,X.cells 29 32 (M.ofList (ZX es.length))):Nat×X)∈ll es.length:=LP _ LG;have x:((6002,X.text 5 (.sym 2050)):Nat×X)∈ll es.length:=LP _ (LP _ LG);refine F0 (λp hp=>?_) (Lh _) (show WFs _ gz from xr) (λβ' w hle d hb p hp=>?_) λβ' w hle hat T c a d=>?_
 .rcases u p hp with rfl|rfl|rfl
  .exact(by decide:100<=6000)
  .exact(by decide:100<=6001)
  .exact(by decide:100<=6002)
 .have h0:(β' 6000).isSome:=d.2.1.1;obtain⟨f,Q⟩:=LM.1 h0;obtain⟨arr,fz,_,hr⟩:=hb _ n f Q;have c0:=(hr.cell 0 (.slice 6001 0 32 32 true) (by rw[M.qy];rfl)).1;have c1:=(hr.cell 1 (.osl 6002 (.sym 2050)) (by rw[M.qy];rfl)).1;rcases u p hp with rfl|rfl|rfl
  .exact h0
  .exact c0.1
  .exact c1.1
 .obtain⟨f,m,g0,n0⟩:=c _ n;obtain⟨g,l,g1,n1⟩:=c _ z;obtain⟨b,j,g2,n2⟩:=c _ x;have m:β' 6000=some f:=m;have l:β' 6001=some g:=l;have j:β' 6002=some b:=j
  have v:J β' (.sym 2050) = .string (str R.qC.bytes):=by
   rw[(WF.mono hle _ (YJ C C)).2];exact KP.kp C C (show val R s1 s2 es 2050=_ from rfl) rfl
  obtain⟨_,_,T⟩:=Jy hR h2 T;have r:(str R.qC.bytes).size=R.qC.bytes.length:=qA _;obtain⟨t1,t2⟩:=VP g2 v;rw[r]at t1 t2;have r0:=zx.of (by rfl) g0
  have el:K β' [.slice 6001 0 32 32 true,.osl 6002 (.sym 2050)]=[.slice (some ⟨g.1,g.2.1,none⟩) 32 32,.slice (some ⟨b.1,b.2.1,none⟩) R.qC.bytes.length (R.qC.bytes.length+(b.2.2-R.qC.bytes.length))]:=by
   simp only[K];rw[J,J,v];simp only[Inj.addr,Inj.blk,Inj.sh,Inj.ext,l,j,sOf,LW,r];rw[Nat.add_sub_cancel' t1];simp
  rw[el]at r0;have r1:=zx.of (by unfold ZX;rw[Ls,As]) g1;rw[(WFs.mono hle _ (TA es.length P)).2,TD P]at r1
  have sep:∀(y:Ej),(∀t∈zX (jz (cnt R.up) (cnt R.down)) KP.tabs,(Unk.place t.1).1≠y.1)->∀p∈KP.tabs,p.1≠y.1:=by
   intro y hy p hp e;refine hy p (by rw[zZ];exact Ay _ hp) ?_;rw[Unk.glob p.1 (VQ p hp)];exact e
  have a:f.1≠g.1/\f.1≠b.1/\g.1≠b.1:=⟨λe=>Ld (show(6000:Nat)=6001 from a _ n _ z _ _ m l e) C,λe=>Ld (show(6000:Nat)=6002 from a _ n _ x _ _ m j e) C,λe=>Ld (show(6001:Nat)=6002 from a _ z _ x _ _ l j e) C⟩
  have key:=KT.ziK m1 m2 (h:=ja (es.map (·.1))) (e:=Mh R) (Yw _) (nN R) (px:=f) (hx:=g) (ex:=(b.1,b.2.1,b.2.2-R.qC.bytes.length)) r0 t2 a.1 a.2.1 a.2.2 r1 (sep _ n0) (sep _ n1) (sep (b.1,b.2.1,b.2.2-R.qC.bytes.length) n2) (@WU KP.unkK w (nk T))
  have ea:(K β' [.str KT.cT,.slice 6000 0 2 2 true]).toArray = #[.string (str KT.cT),.slice (some ⟨f.1,f.2.1,none⟩) 2 2]:=by
   simp[K,J,Inj.addr,Inj.blk,Inj.sh,m]
  have er:J β' (.agg gz) = .agg (zB 32 (Wl R.qC.bytes.length (ja (es.map (·.1))) (Mh R))).toArray:=by
   rw[J,(WFs.mono hle _ xr).2,bg,uj];rfl
  rw[ea,er];refine key.mono λo w2 hq=>?_;obtain⟨q1,q2,q3⟩:=hq;refine⟨q1,λk P i=>q2 k P (i _ n f m) (i _ z g l) (i _ x b j),q3⟩
end
section
variable[Unk]{γ:Inj}{H:Heap}{w:Ea}
def Xk{b t:Nat}{l:List G}(hR:Rel prog γ H w)(h:(Z (H.row b) false λr=>L (Nat.ble lo b) (L (Nat.beq r.t t) (L (Nat.ble (je l 0) r.n) (Z (M.Xu (je l 0) r.c 0) false λcs=>yh cs l))))=true)(hx:γ b=some x):WFs γ l/\zx prog w x t (K γ l)/\lo<=b:=by
 cases f:H.row b with
 | none=>rw[f]at h;cases h
 | some r=>
  rw[f,ze]at h;simp only[zl,Le,zA,Ll,zK,Lk,jV]at h;obtain⟨k,h1,h2,h3⟩:=h
  cases g:M.Xu l.length r.c 0 with
  | none=>rw[g]at h3;cases h3
  | some cs=>
   rw[g,ze]at h3;obtain rfl:=j5 _ _ h3;obtain⟨_,e⟩:=M.jZ _ _ _ _ g;obtain⟨arr,fz,i,k2⟩:=hR.rowAt f (by rw[hx];rfl);simp only[Inj.blk,Inj.sh,Inj.ext,hx,LW]at i k2
   have a:∀j (d:j<cs.length),r.c.get j=some cs[j]:=λj d=>by
    have:=e j d;rw[Lz]at this;rw[this,Ly d]
   refine⟨?_,⟨arr,fz,by rw[<- h1];exact i,?_,k2.thaw,by rw[<- h1];exact k2.al,λj d=>?_⟩,k⟩
   .rw[qb];intro v hv;obtain⟨j,d,rfl⟩:=List.getElem_of_mem hv;exact(k2.cell j _ (a j d)).1
   .rw[Js];have:=k2.size;rw[h1]at this;exact Lj (Nat.add_le_add_right (Nat.add_le_add_left h2 _) _) this
   .rw[Js]at d;rw[bn,Ly d];exact(k2.cell j _ (a j d)).2
end
def zx.less(h:zx P w x t a){e:Nat}(he:e<=x.2.2):zx P w (x.1,x.2.1,e) t a:=by
 obtain⟨arr,fz,h1,h2,h3⟩:=h;exact⟨arr,fz,h1,Lj (Nat.add_le_add_left (mul_le_mul_right _ he) _) h2,h3⟩
open TR
open KT(zB Wl)
def ay{p:Em}(f:p 0)(h1:p 1)(h2:p 2)(h3:p 3)(e:p 4)(d:p 5)(c:p 6)(b:p 7)(a:p 8)(g:k<=8):p k:=by
 have:k=0\/k=1\/k=2\/k=3\/k=4\/k=5\/k=6\/k=7\/k=8:=by omega
 rcases this with rfl|rfl|rfl|rfl|rfl|rfl|rfl|rfl|rfl
 .exact f
 .exact h1
 .exact h2
 .exact h3
 .exact e
 .exact d
 .exact c
 .exact b
 .exact a
def ZP{f:Nat->Nat->Bool}(h:ZO f=true)(a b:En):f (cnt a) (cnt b)=true:=by
 unfold ZO at h;simp only[zl,Le]at h;obtain⟨h1,h2,h3,c⟩:=h;cases a<;>cases b
 .exact h1
 .exact h2
 .exact h3
 .exact c
def vF(d:k<=8)(a b:En):(∀c,c<3->Ko k c (cnt a) (cnt b)=true)/\gM k (cnt a) (cnt b)=true/\JS k (cnt a) (cnt b)=true:=by
 have h:=ZP (ay (p:=λk=>JU k=true) zkE zkD zkC zkB zkA zkz zky zkx zkw d) a b;simp only[zl,Le]at h;obtain⟨f,h1,h2,h3,e⟩:=h;refine⟨λc hc=>?_,h3,e⟩;have:c=0\/c=1\/c=2:=by omega
 rcases this with rfl|rfl|rfl
 .exact f
 .exact h1
 .exact h2
def vE(e:k<=8)(a b:En)(g:j<k)(hi:i<2){f:List Fact}(l:yG i (AP.bars j)=some f):gO k (cnt a) (cnt b) j f=true:=by
 have h:=ZP (ay (p:=λk=>Yz k=true) zkv zku zkt zks zkr zkq zkp zko zkn e) a b;have h1:=jw h j (Lr.2 g)
 have c:i∈[0,1]:=by
  have d:i=0\/i=1:=by omega
  rcases d with rfl|rfl
  .exact LG
  .exact LP _ LG
 have h2:=jw h1 i c;rw[l,ze]at h2;exact h2
def Ki{a b:Type}(d:a)(f:a->List b)(l:List a):l.flatMap f=(List.range l.length).flatMap λj=>f ((l[j]?).getD d):=by
 have:l=(List.range l.length).map λj=>(l[j]?).getD d:=by
  apply List.ext_getElem
  .simp
  .intro i h1 h2;simp[Ly h1]
 conv=>lhs;rw[this]
 rw[List.flatMap_map]
structure In(B:Em)(w:Ea)(tv:Ei)(es:List Ent)(R:zy)(v1 v2:Ei):Prop where
 rec_:R.Ok
 few:es.length<=8
 qI:qm B w tv es
 up:AtS w v1 R.up
 down:AtS w v2 R.down
 tab:kG w
 new:∀c,w.heap.size<=c->B c
section
variable{R:zy}{s1 s2:Ee}{es:List Ent}{x1 x2:Ej}
def MG(hl:Zw w es)(a:j<es.length)(g:j<9):letI:=unkA x1 x2 s1 s2 es
  (WF (KP.BN 6000 (val R s1 s2 es)) (ol j 0)/\J (KP.BN 6000 (val R s1 s2 es)) (ol j 0)=((es[j]?).getD default).2.1)/\(WF (KP.BN 6000 (val R s1 s2 es)) (ol j 1)/\J (KP.BN 6000 (val R s1 s2 es)) (ol j 1)=((es[j]?).getD default).2.2):=by
 letI:=unkA x1 x2 s1 s2 es;have hm:(es[j]?).getD default∈es:=by rw[Ly a];exact AL a
 obtain⟨l1,l2⟩:=hl _ hm
 have key:∀i,i<2->WF (KP.BN 6000 (val R s1 s2 es)) (ol j i)/\J (KP.BN 6000 (val R s1 s2 es)) (ol j i)=opq es (72+2*j+i):=by
  intro i hi;have b:72+2*j+i<100:=by omega
  refine⟨by show(KP.BN 6000 (val R s1 s2 es) (72+2*j+i)).isSome=true;rw[JV b];rfl,?_⟩;show qn ((KP.BN 6000 (val R s1 s2 es) (72+2*j+i)).getD (0,0,0))=_;rw[JV b,LW];show qn (if 72+2*j+i=60 then x1 else if 72+2*j+i=61 then x2 else if 72+2*j+i=70 then Zs s1 else if 72+2*j+i=71 then Zs s2 else if 72<=72+2*j+i/\72+2*j+i<100 then(1000+(72+2*j+i),0,0) else(72+2*j+i,0,0))=_;rw[O I,O I,O I,O I,Y I];show opq es (1000+(72+2*j+i)-1000)=_;rw[LA]
 obtain⟨f,e⟩:=key 0 C;obtain⟨d,c⟩:=key 1 C;refine⟨⟨f,?_⟩,⟨d,?_⟩⟩
 .rw[e];unfold opq;rw[Y I,show(72+2*j+0-72) / 2=j by omega,W9 (W7 l1)]
 .rw[c];unfold opq;rw[O I,show(72+2*j+1-72) / 2=j by omega,W9 (W7 l2)]
def V5(hl:Zw w es)(h:es.length<=8):letI:=unkA x1 x2 s1 s2 es
  WFs (KP.BN 6000 (val R s1 s2 es)) (Qh es.length)/\K (KP.BN 6000 (val R s1 s2 es)) (Qh es.length)=cellsOf es:=by
 letI:=unkA x1 x2 s1 s2 es;constructor
 .rw[qb];intro v hv;obtain⟨j,d,hv⟩:=AE.1 hv;have d:j<es.length:=Lr.1 d;have c:j<9:=by omega
  obtain⟨⟨a,_⟩,⟨b,_⟩⟩:=MG (R:=R) (x1:=x1) (x2:=x2) (s1:=s1) (s2:=s2) hl d c;simp only[Lf,Lq,Lo]at hv;rcases hv with rfl|rfl|rfl|rfl|rfl|rfl|rfl|rfl|rfl|rfl|rfl|rfl|rfl|rfl
  .exact yP c C
  .exact yP c C
  .exact yP c C
  .exact yP c C
  .exact yP c C
  .exact yP c C
  .exact yP c C
  .exact yP c C
  .exact yP c C
  .exact a
  .exact b
  .exact yP c C
  .exact yP c C
  .exact yP c C
 .have g:cellsOf es=(List.range es.length).flatMap λj=>yX ((es[j]?).getD default):=Ki _ yX es;rw[g];clear g;unfold Qh;have f:=zC (KP.BN 6000 (val R s1 s2 es)) ((List.range es.length).flatMap λj=>[of j 0,of j 1,of j 2,of j 3,of j 4,of j 5,of j 6,of j 7,of j 8,ol j 0,ol j 1,of j 9,of j 10,of j 11]);rw[List.map_flatMap]at f;refine f.trans ?_;unfold List.flatMap;refine congrArg List.flatten ?_;refine Ab λj d=>?_;have d:j<es.length:=Lr.1 d;have c:j<9:=by omega
  obtain⟨⟨_,a⟩,⟨_,b⟩⟩:=MG (R:=R) (x1:=x1) (x2:=x2) (s1:=s1) (s2:=s2) hl d c;have e:∀i,i<12->J (KP.BN 6000 (val R s1 s2 es)) (of j i)=(jK es j).at i:=λi hi=>XQ c hi;simp only[Aw,map_nil];rw[a,b,e 0 C,e 1 C,e 2 C,e 3 C,e 4 C,e 5 C,e 6 C,e 7 C,e 8 C,e 9 C,e 10 C,e 11 C];rfl
def FitA.alts[Unk]{E:Env}(hF:FitA E)(f t:Nat)(l:List (List (List Fact))):FitA (E.withAlts f t l):=⟨⟨hF.env.types,hF.env.funcs⟩,hF.count,hF.spec,hF.mixed⟩
def zjr(F:List Fact)(A:List (List (List Fact)))(p q:Nat)[Unk]:FitA (E F A p q):=by
 have:Fit (Qm prog AP.specs F (zX (jz p q) KP.tabs)):=QA KP.yQ KP.JL (λp hp=>by
  have hp:p∈[((30:Eu),Spec.fact),((31:Eu),Spec.fact),((32:Eu),Spec.fact)]:=hp;simp only[Lf,Lq,Lo]at hp
  rcases hp with rfl|rfl|rfl<;>trivial)
 exact FitA.alts this.toFitA 12 58 A
end
open TR
open KT(zB Wl)
def kL{p:Nat×X}(hp:p∈rows k):p=(6000,X.cells 96 2 (M.ofList [Qk k,.slice 6002 0 (Nat.succ k) (Nat.succ k) false]))\/(k≠0/\p=(6001,X.cells 42 (Nat.mul 14 k) (M.ofList (Qh k))))\/p=(6002,X.cells 29 (Nat.mul 32 (Nat.succ k)) (M.ofList (ZJ k))):=by
 unfold rows at hp;rcases Lf.1 hp with h|h
 .exact .inl h
 .rw[zZ]at h;rcases LJ.1 h with h|h
  .cases k with
   | zero=>cases h
   | succ k=>exact .inr (.inl ⟨I,Lu.1 h⟩)
  .exact .inr (.inr (Lu.1 h))
def aX(k:Nat):(6000,X.cells 96 2 (M.ofList [Qk k,.slice 6002 0 (Nat.succ k) (Nat.succ k) false]))∈rows k:=LG
def aW(a:k≠0):(6001,X.cells 42 (Nat.mul 14 k) (M.ofList (Qh k)))∈rows k:=by
 cases k with
 | zero=>exact Ld rfl a
 | succ k=>exact LP _ (by rw[zZ];exact List.mem_append_left _ (Lu.2 rfl))
def aV(k:Nat):(6002,X.cells 29 (Nat.mul 32 (Nat.succ k)) (M.ofList (ZJ k)))∈rows k:=LP _ (by rw[zZ];exact Ay _ (Lu.2 rfl))
def ow(h:kept k H=true):∀p∈rows k,H.blk.get p.1=some p.2:=by
 intro p hp;have:=KP.W6 (α:=Nat×X) (p:=λq=>Z (H.blk.get q.1) false λb=>Q0 b q.2) (l:=rows k) h p hp
 cases a:H.blk.get p.1 with
 | none=>rw[a]at this;cases this
 | some b=>
  rw[a,ze]at this;rw[QZ this]
def QJ(k:Nat):(Qh k).length=14*k:=by
 unfold Qh
 induction k with
 | zero=>rfl
 | succ k a=>rw[List.range_succ,List.flatMap_append,Lm,a,List.flatMap_singleton];show 14*k+14=_;omega
def YW(k:Nat):(ZJ k).length=32*(k+1):=by unfold ZJ;rw[Ls,As];rfl
section
variable{R:zy}{s1 s2:Ee}{es:List Ent}{v1 v2:Ei}{x1 x2:Ej}{w:Ea}{tv:Ei}{B:Em}
def dR{F : List Fact}{A : List (List (List Fact))}{ok : G -> Heap -> Bool}(i : In B w tv es R v1 v2)(h2 : Two w R v1 v2 x1 x2 s1 s2)
    (hf : letI := unkA x1 x2 s1 s2 es; ∀f ∈ F, zu prog (zX (jz (cnt R.up) (cnt R.down)) KP.tabs) (KP.BN 6000 (val R s1 s2 es)) f)
    (hA : letI := unkA x1 x2 s1 s2 es; ∀(i : Nat) l, A[i]?=some l -> ∃alt ∈ l, ∀f ∈ alt, zu prog (zX (jz (cnt R.up) (cnt R.down)) KP.tabs) (KP.BN 6000 (val R s1 s2 es)) f)
    (hk : ∀v H, ok v H = true -> kept es.length H = true) (hchk : run F A es.length (cnt R.up) (cnt R.down) ok = true) :
    Calls prog 12 #[tv, .agg (R.l1 ++ v1 :: v2 :: R.l2).toArray] w λe w2 => qh w w2 /\ Xa B w w2 /\ qm B w2 tv es /\
      (letI := unkA x1 x2 s1 s2 es; ∃P v H', e = .returned (J P v) /\ WF P v /\ (KP.BN 6000 (val R s1 s2 es)).le P /\ Rel prog P H' w2 /\ ok v H' = true /\ ∀id x, 6003 <= id -> P id = some x -> B x.1) := by
  letI := unkA x1 x2 s1 s2 es;obtain⟨⟨x, hd, r, rfl, rw0, rw1, rr, bx, bh, br⟩, hl⟩ := i.qI
  obtain⟨rx, q1, q2⟩ : ∃rx : Nat × Nat × Nat, (es = [] -> r = .slice none 0 0 /\ rx = x) /\ (es ≠ [] -> r = .slice (some ⟨rx.1, rx.2.1, none⟩) es.length (es.length + rx.2.2) /\ zx prog w rx 42 (cellsOf es)) := by
    by_cases he : es = []
    · exact⟨x, λ_ => ⟨rr.1 he, rfl⟩, λh => Ld he h⟩
    · obtain⟨y, h1, h2⟩ := rr.2 he
      exact⟨y, λh => Ld h he, λ_ => ⟨h1, h2⟩⟩
  have hne : es.length ≠ 0 -> es ≠ [] := λh e => h (by rw[e]; rfl);unfold run at hchk;let E' := E F A (cnt R.up) (cnt R.down)
  cases hr : qL E' (kh E' 1000000) 12 [.ptr 6000 0, ZL (cnt R.up) (cnt R.down)] (jD E' 6003 (rows es.length)) with
  | none => rw[show qL (E F A (cnt R.up) (cnt R.down)) (kh (E F A (cnt R.up) (cnt R.down)) 1000000) 12 [.ptr 6000 0, ZL (cnt R.up) (cnt R.down)] (jD (E F A (cnt R.up) (cnt R.down)) 6003 (rows es.length)) = none from hr] at hchk; cases hchk
  | some z =>
    obtain⟨v, H'⟩ := z;rw[show qL (E F A (cnt R.up) (cnt R.down)) (kh (E F A (cnt R.up) (cnt R.down)) 1000000) 12 [.ptr 6000 0, ZL (cnt R.up) (cnt R.down)] (jD (E F A (cnt R.up) (cnt R.down)) 6003 (rows es.length)) = some (v, H') from hr, ze] at hchk;let σ := KP.Zm 6000 (val R s1 s2 es);let pl : Nat -> Nat × Nat × Nat := λid => if id = 6000 then x else if id = 6001 then rx else hd
    let β := qG σ 6000 3 pl
    have hle : (KP.BN 6000 (val R s1 s2 es)).le β := kl C KP.ju;have b0 : β 6000 = some x := qH C C;have b1 : β 6001 = some rx := qH C C;have b2 : β 6002 = some hd := qH C C;obtain⟨a1, a2⟩ := V5 (R := R) (x1 := x1) (x2 := x2) (s1 := s1) (s2 := s2) hl i.few;have a3 := Vm (R := R) (s1 := s1) (s2 := s2) (es := es) es.length (by have := i.few; omega);have a4 := Jm (R := R) (s1 := s1) (s2 := s2) (es := es) (by have := i.few; omega);obtain⟨a5, a6⟩ := Qu (es := es) i.rec_ h2
    have hin : ∀p ∈ rows es.length, 6000 <= p.1 /\ p.1 < 6000 + 3 := by
      intro p hp;rcases kL hp with rfl|⟨_, rfl⟩|rfl
      · exact⟨by show 6000 <= 6000; omega, by show 6000 < 6003; omega⟩
      · exact⟨by show 6000 <= 6001; omega, by show 6001 < 6003; omega⟩
      · exact⟨by show 6000 <= 6002; omega, by show 6002 < 6003; omega⟩
    have T : ∀P : Inj, P 6000 = some x -> P 6001 = some rx -> P 6002 = some hd -> WFs P [Qk es.length, .slice 6002 0 (Nat.succ es.length) (Nat.succ es.length) false] /\
        K P [Qk es.length, .slice 6002 0 (Nat.succ es.length) (Nat.succ es.length) false] = [r, .slice (some ⟨hd.1, hd.2.1, none⟩) (es.length + 1) (es.length + 1 + hd.2.2)] := by
      intro P c0 c1 c2
      have hs : WF P (Qk es.length) /\ J P (Qk es.length) = r := by
        by_cases he : es = []
        · rw[(q1 he).1, he]
          exact⟨trivial, rfl⟩
        · rw[(q2 he).1]
          cases hes : es.length with
          | zero => exact Ld (Ax hes) he
          | succ n =>
            refine⟨⟨by rw[c1]; rfl, Lh _⟩, ?_⟩;show J P (.slice 6001 0 (n + 1) (n + 1) false) = _;simp[J, Inj.addr, Inj.blk, Inj.sh, Inj.ext, c1]
      refine⟨⟨hs.1, ⟨by rw[c2]; rfl, Lh _⟩, trivial⟩, ?_⟩;simp only[K];rw[hs.2];simp[J, Inj.addr, Inj.blk, Inj.sh, Inj.ext, c2]
    have hblk : ∀p ∈ rows es.length, zO prog β p.2 (pl p.1) w := by
      intro p hp;rcases kL hp with rfl|⟨hn, rfl⟩|rfl
      · exact zx.blk (l := [Qk es.length, .slice 6002 0 (Nat.succ es.length) (Nat.succ es.length) false]) rfl (T β b0 b1 b2).1 (by rw[(T β b0 b1 b2).2]; exact rw0)
      · exact zx.blk (l := Qh es.length) (QJ _) (WFs.mono hle _ a1).1 (by rw[(WFs.mono hle _ a1).2, a2]; exact(q2 (hne hn)).2)
      · exact zx.blk (l := ZJ es.length) (YW _) (WFs.mono hle _ a3).1 (by rw[(WFs.mono hle _ a3).2, a4]; exact rw1)
    have types : ∀p ∈ rows es.length, ∃(arr : Array Value) (fz : Nat × Nat) (t : Nat), w.heap[(pl p.1).1]?=some (Obj.cells arr t fz) /\ (p.1 = 6000 /\ t = 96 \/ p.1 = 6001 /\ t = 42 \/ p.1 = 6002 /\ t = 29) := by
      intro p hp;rcases kL hp with rfl|⟨hn, rfl⟩|rfl
      · obtain⟨arr, fz, g, _⟩ := rw0
        exact⟨arr, fz, 96, g, .inl ⟨rfl, rfl⟩⟩
      · obtain⟨arr, fz, g, _⟩ := (q2 (hne hn)).2
        exact⟨arr, fz, 42, g, .inr (.inl ⟨rfl, rfl⟩)⟩
      · obtain⟨arr, fz, g, _⟩ := rw1
        exact⟨arr, fz, 29, g, .inr (.inr ⟨rfl, rfl⟩)⟩
    have hinj : ∀p ∈ rows es.length, ∀q ∈ rows es.length, (pl p.1).1 = (pl q.1).1 -> p.1 = q.1 := by
      intro p hp q hq e;obtain⟨arr, fz, t, g1, g2⟩ := types p hp;obtain⟨d, k, t', g3, g4⟩ := types q hq;rw[e, g3] at g1;simp only[Ag, Obj.cells.injEq] at g1;have : (_ : Nat) = (_ : Nat) := g1.2.1;omega
    have hsep : ∀p ∈ rows es.length, ∀t ∈ zX (jz (cnt R.up) (cnt R.down)) KP.tabs, (Unk.place t.1).1 ≠ (pl p.1).1 := by
      intro p hp t Q e;obtain⟨arr, fz, u, g1, g2⟩ := types p hp;rw[<- e] at g1
      have key : ∃(d : Array Value) (k : Nat × Nat) (u' : Nat), w.heap[(Unk.place t.1).1]?=some (Obj.cells d u' k) /\ (u' = 3 \/ u' = 401 \/ u' = 403) := by
        rcases zY Q with Q|Q
        · unfold jz at Q
          rcases zY Q with Q|Q
          · have hb := YH h2.a (β := λid => some (Unk.place id)) (λ_ _ => rfl) (b := 60) (q := 70) C rfl rfl t Q
            have : t = (60, .ints 3 (.sym 70)) := by
              cases ho : R.up with
              | none => rw[ho] at Q; cases Q
              | some o => rw[ho] at Q; exact Lu.1 Q
            subst this;obtain⟨d, k, k1, _⟩ := hb;exact⟨d, k, 3, k1, .inl rfl⟩
          · have hb := YH h2.b (β := λid => some (Unk.place id)) (λ_ _ => rfl) (b := 61) (q := 71) C rfl rfl t Q
            have : t = (61, .ints 3 (.sym 71)) := by
              cases ho : R.down with
              | none => rw[ho] at Q; cases Q
              | some o => rw[ho] at Q; exact Lu.1 Q
            subst this;obtain⟨d, k, k1, _⟩ := hb;exact⟨d, k, 3, k1, .inl rfl⟩
        · rw[Unk.glob t.1 (VQ t Q)]
          obtain⟨⟨d, k, k1, _⟩, ⟨arr'', fz'', k2, _⟩⟩ := i.tab;simp only[KP.tabs, Lf, Lq, Lo] at Q;rcases Q with rfl|rfl
          · exact⟨d, k, 401, k1, .inr (.inl rfl)⟩
          · exact⟨arr'', fz'', 403, k2, .inr (.inr rfl)⟩
      obtain⟨d, k, u', g3, g4⟩ := key;rw[g3] at g1;simp only[Ag, Obj.cells.injEq] at g1;have : (_ : Nat) = (_ : Nat) := g1.2.1;omega
    have hfacts : zJ E' (zQ σ) := hf
    have hAlts : YF E' (zQ σ) := by
      intro fn q hq j l hl;have hq : (M.set .nil 12 ((58 : Nat), A)).get fn = some q := hq;rw[M.zN] at hq;split at hq
      · cases hq
        exact hA j l hl
      · rw[M.get_nil] at hq; cases hq
    have := Wf (E := E') (σ := σ) (N := 6000) (m := 3) (pl := pl) (zjr F A _ _) C KP.ju hfacts hAlts (Dj _ _) (ak i.rec_ h2 (WU i.tab)) hin hblk hinj hsep hr ⟨by show(β 6000).isSome = true; rw[b0]; rfl, (WF.mono hle _ a5).1, trivial⟩
    have ea : (K β [.ptr 6000 0, ZL (cnt R.up) (cnt R.down)]).toArray = #[.pointer (some ⟨x.1, x.2.1, none⟩), .agg (R.l1 ++ v1 :: v2 :: R.l2).toArray] := by
      rw[K, K, K, (WF.mono hle _ a5).2, a6];simp[J, Inj.addr, Inj.blk, Inj.sh, b0]
    rw[ea] at this;refine this.mono λe w2 hx => ?_;obtain⟨hP, P, rfl, g1, g2, g3, g4⟩ := hx
    have lowγ : (KP.BN 6000 (val R s1 s2 es)).le P := λid y hy => by
      have hid : id < 6000 := by
        rcases LD id 6000 with h|h
        · exact h
        · rw[KP.UH C id h] at hy; cases hy
      rw[g2 id I];exact hle id y hy
    have c0 : P 6000 = some x := by rw[g2 6000 C]; exact b0
    have c1 : P 6001 = some rx := by rw[g2 6001 C]; exact b1
    have c2 : P 6002 = some hd := by rw[g2 6002 C]; exact b2
    have hB : ∀j, 6000 <= j -> j < 6000 + 3 -> B (pl j).1 := by
      intro j j1 j2;have hj : j = 6000 \/ j = 6001 \/ j = 6002 := by omega
      rcases hj with rfl|rfl|rfl
      · exact bx
      · by_cases he : es = []
        · show B rx.1
          rw[(q1 he).2];exact bx
        · exact br _ _ _ (q2 he).1
      · exact bh
    have hlow : ∀c, c < w.heap.size -> ¬B c -> w2.heap[c]?=w.heap[c]? := λc hc hn => hP.frame c hc λj j1 j2 e => hn (e ▸ hB j j1 j2)
    have hk3 : Xa B w w2 := by
      refine⟨λc arr t fz hc n1 n2 n3 => hP.frame c (LO.1 hc).1 λj j1 j2 e => ?_, hlow⟩
      have key : ∃(d : Array Value) (k : Nat × Nat) (u' : Nat), w.heap[(pl j).1]?=some (Obj.cells d u' k) /\ (u' = 96 \/ u' = 42 \/ u' = 29) := by
        obtain⟨arr0, fz0, z0, _⟩ := rw0;obtain⟨arr2, fz2, z2, _⟩ := rw1;have hj : j = 6000 \/ j = 6001 \/ j = 6002 := by omega
        rcases hj with rfl|rfl|rfl
        · exact⟨arr0, fz0, 96, z0, .inl rfl⟩
        · by_cases he : es = []
          · refine⟨arr0, fz0, 96, ?_, .inl rfl⟩
            show w.heap[rx.1]?=_;rw[(q1 he).2];exact z0
          · obtain⟨arr1, fz1, z1, _⟩ := (q2 he).2
            exact⟨arr1, fz1, 42, z1, .inr (.inl rfl)⟩
        · exact⟨arr2, fz2, 29, z2, .inr (.inr rfl)⟩
      obtain⟨d, k, u', k1, k2⟩ := key;rw[e, hc] at k1;simp only[Ag, Obj.cells.injEq] at k1;have hkt : t = u' := k1.2.1;rcases k2 with k2|k2|k2
      · exact n1 (hkt.trans k2)
      · exact n2 (hkt.trans k2)
      · exact n3 (hkt.trans k2)
    have hkeep : qh w w2 := ⟨λc arr t fz hc n1 n2 n3 _ => hk3.1 c arr t fz hc n1 n2 n3, hP.size, hP.tape, hP.os, hP.output⟩
    have hrows := ow (hk v H' hchk);refine⟨hkeep, hk3, ⟨⟨x, hd, r, rfl, ?_, ?_, ⟨rr.1, λhe => ?_⟩, bx, bh, br⟩, hkeep.lists hl⟩, P, v, H', rfl, g1, lowγ, g3, hchk, λid x hid hx => ?_⟩
    · have := zx.of (l := [Qk es.length, .slice 6002 0 (Nat.succ es.length) (Nat.succ es.length) false]) rfl (g3.blk 6000 _ x (hrows _ (aX _)) c0)
      rwa[(T P c0 c1 c2).2] at this
    · have := zx.of (l := ZJ es.length) (YW _) (g3.blk 6002 _ hd (hrows _ (aV _)) c2)
      rwa[(WFs.mono lowγ _ a3).2, a4] at this
    · have hn : es.length ≠ 0 := λh => he (Ax h)
      have := zx.of (l := Qh es.length) (QJ _) (g3.blk 6001 _ rx (hrows _ (aW hn)) c1);rw[(WFs.mono lowγ _ a1).2, a2] at this;exact⟨rx, (q2 he).1, this⟩
    · rcases g4 id x hid hx with h|⟨p, hp, h⟩
      · exact i.new _ h
      · obtain⟨z1, z2⟩ := hin p hp
        rw[<- h];exact hB p.1 z1 z2
end
open TR
open KT(zB Wl)
def YM{e v:G}(h:cj k e v H=true):v = .tuple [.nilp,e]/\kept k H=true:=by
 unfold cj at h;simp only[zl,Le]at h;exact⟨zV _ _ h.1,h.2⟩
def UD{v:G}{f:Nat->Bool}(h:tI v n f=true):∃b e,v = .slice b 0 n n e/\f b=true:=by
 cases v<;>simp only[tI]at h<;>first|(cases h;done)|skip
 rename_i b o m c e;simp only[zl,Le,zA,Ll]at h;obtain⟨rfl,rfl,rfl,h⟩:=h;exact⟨b,e,rfl,h⟩
structure Hw(k p q:Nat)(v:G)(H:Heap):Prop where
 ex:∃b sb hb e1 e2 u d,v = .tuple [.ptr b 0,qc 0]/\JO H b 96 [.slice sb 0 (Nat.succ k) (Nat.succ k) e1,.slice hb 0 (Nat.add k 2) (Nat.add k 2) e2]=true/\JO H hb 29 (zX (ZJ k) gz)=true/\cV u p 70 H=true/\cV d q 71 H=true /\
  JO H sb 42 (zX (Qh k) [nf 0,nf 1,nf 2,nf 3,nf 4,nf 5,nf 6,nf 7,nf 8,u,d,nf 9,nf 10,nf 11])=true
def sN{p q:Nat}{v:G}(h:cg k p q v H=true):kept k H=true/\Hw k p q v H:=by
 cases v<;>simp only[cg]at h<;>first|(cases h;done)|skip
 rename_i l
 cases l with
 | nil=>cases h
 | cons a m=>
  simp only[lC]at h;rw[zl,Le,zl,Le]at h;obtain⟨h1,h2,h3⟩:=h;obtain rfl:=j5 _ _ h1;refine⟨h2,?_⟩;cases a<;>simp only at h3<;>first|(cases h3;done)|skip
  rename_i b o;rw[zl,Le,zA,Ll]at h3;obtain⟨rfl,h3⟩:=h3
  cases j:H.row b with
  | none=>rw[j]at h3;cases h3
  | some r=>
   rw[j,ze]at h3
   cases hs:r.c.get 0 with
   | none=>rw[hs]at h3;cases h3
   | some s=>
    rw[hs,ze]at h3
    cases hh:r.c.get 1 with
    | none=>rw[hh]at h3;cases h3
    | some hd=>
     rw[hh,ze]at h3;obtain⟨f,P,rfl,h3⟩:=UD h3;obtain⟨hb,z,rfl,h3⟩:=UD h3;rw[zl,Le,zl,Le]at h3;obtain⟨g1,y,h3⟩:=h3
     cases hq:H.row f with
     | none=>rw[hq]at h3;cases h3
     | some g=>
      rw[hq,ze]at h3
      cases i:g.c.get (Nat.add (Nat.mul 14 k) 9) with
      | none=>rw[i]at h3;cases h3
      | some u=>
       rw[i,ze]at h3
       cases e:g.c.get (Nat.add (Nat.mul 14 k) 10) with
       | none=>rw[e]at h3;cases h3
       | some d=>
        rw[e,ze,zl,Le,zl,Le]at h3;obtain⟨x,t,n⟩:=h3;exact⟨b,f,hb,P,z,u,d,rfl,g1,y,x,t,n⟩
section
variable{R:zy}{s1 s2:Ee}{es:List Ent}{v1 v2:Ei}{x1 x2:Ej}{w:Ea}{tv:Ei}{B:Em}
def mQ[Unk]{w:Ea}{o:En}{s:Ee}(h:Slot w v o x s){u:G}{q:Nat}(hR:Rel prog g H w2)(hc:cV u (cnt o) q H=true)(j:WF g u)(hq:J g (.sym q) = .string s):AtS w2 (J g u) o:=by
 cases o with
 | none=>
  have hc:qF u .nilslice=true:=hc;rw[zV _ _ hc]
  rfl
 | some t=>
  obtain⟨rfl,_⟩:=h.some_ t rfl;cases u<;>first|(exact Ld (show false=true from hc) C)|skip
  rename_i b z;have hc:L (Nat.ble 6003 b) (L (qF z (.sym q)) (Z (H.blk.get b) false λx=>Q0 x (.ints 3 (.sym q))))=true:=hc;rw[zl,Le,zl,Le]at hc;obtain⟨_,h2,h3⟩:=hc;obtain rfl:=zV _ _ h2
  cases a:H.blk.get b with
  | none=>rw[a]at h3;cases h3
  | some y=>
   rw[a,ze]at h3;obtain rfl:=QZ h3;obtain⟨z,d⟩:=LM.1 j.1;obtain⟨arr,fz,f,k2⟩:=hR.blk _ _ z a d;obtain⟨s',e,k⟩:=k2.is;rw[hq]at e;cases e;refine⟨z,arr,fz,?_,f,k,k2.size,λi c hc=>k2.cell i c (by rw[hq];exact hc),k2.thaw⟩;rw[J,hq];simp[sOf,Inj.addr,Inj.blk,Inj.sh,Inj.ext,d]
def Y8(j:Nat)(b:j<=8)(hb:∀i,i<j->¬TR.bars (jK es i) R):letI:=unkA x1 x2 s1 s2 es
  ∀(i:Nat) l,(Kz j)[i]?=some l->∃alt∈l,∀f∈alt,zu prog (zX (jz (cnt R.up) (cnt R.down)) KP.tabs) (KP.BN 6000 (val R s1 s2 es)) f:=by
 letI:=unkA x1 x2 s1 s2 es;intro i l hl;unfold Kz at hl;rw[Lw]at hl;obtain⟨a,ha,rfl⟩:=LU.1 hl;have hi:i<j:=by have:=(LL.1 ha).1;simpa using this
 rw[Ah hi]at ha;cases ha;exact KL I (hb i hi)
def Vo(a:j<es.length):jK es j∈es.map (·.1):=by
 unfold jK;rw[Ly a];exact Lv.2 ⟨es[j],AL a,rfl⟩
def du{x:zy}(hx:x∈es.map (·.1)):∃j,j<es.length/\jK es j=x:=by
 obtain⟨e,he,rfl⟩:=Lv.1 hx;obtain⟨j,a,rfl⟩:=List.getElem_of_mem he;exact⟨j,a,by unfold jK;rw[Ly a];rfl⟩
def cS(i : In B w tv es R v1 v2) : Calls prog 12 #[tv, .agg (R.l1 ++ v1 :: v2 :: R.l2).toArray] w λe w2 => qh w w2 /\ Xa B w w2 /\ qm B w2 tv es /\ ∃t2, e = .returned (.tuple #[t2, .int .i64 (ji (es.map (·.1)) R : Nat)]) /\
    (ji (es.map (·.1)) R ≠ 0 -> t2 = .pointer none) /\ (ji (es.map (·.1)) R = 0 -> ∃u1 u2, qm B w2 t2 (es ++ [(R, u1, u2)])) := by
  obtain⟨x1, s1, k1⟩ := WY i.up;obtain⟨x2, s2, k2⟩ := WY i.down;have h2 : Two w R v1 v2 x1 x2 s1 s2 := ⟨k1, k2⟩
  have hR := i.rec_;letI := unkA x1 x2 s1 s2 es;obtain⟨r1, r2, r3⟩ := vF i.few R.up R.down;have t := ZQ (R := R) (s1 := s1) (s2 := s2) (es := es) (tabs := zX (jz (cnt R.up) (cnt R.down)) KP.tabs) hR es.length
  have noA : ∀(i : Nat) (l : List (List Fact)), ([] : List (List (List Fact)))[i]?=some l -> ∃alt ∈ l, ∀f ∈ alt, zu prog (zX (jz (cnt R.up) (cnt R.down)) KP.tabs) (KP.BN 6000 (val R s1 s2 es)) f := by
    intro i l hl;cases hl
  have bad : ∀(n : Nat) {e : Ending} {w2 : World} {γ : Inj} {a : G}, ji (es.map (·.1)) R = n -> n ≠ 0 -> J γ a = .int .i64 (n : Nat) -> qh w w2 -> Xa B w w2 -> qm B w2 tv es -> e = .returned (J γ (.tuple [.nilp, a])) ->
      qh w w2 /\ Xa B w w2 /\ qm B w2 tv es /\ ∃t2, e = .returned (.tuple #[t2, .int .i64 (ji (es.map (·.1)) R : Nat)]) /\ (ji (es.map (·.1)) R ≠ 0 -> t2 = .pointer none) /\ (ji (es.map (·.1)) R = 0 -> ∃u1 u2, qm B w2 t2 (es ++ [(R, u1, u2)])) := by
    intro n e w2 γ a hn h0 ha hk hk3 ht he;refine⟨hk, hk3, ht, .pointer none, ?_, λ_ => rfl, λh => Ld (hn.symm.trans h) h0⟩;rw[he, J];simp only[K];rw[ha, hn];rfl
  by_cases hc : Vy es.length R < 3
  · have hn : ji (es.map (·.1)) R = 2 := by
      unfold ji;rw[Ls, Y];unfold Vy at hc;split at hc
      · rename_i h; exact .inl h
      · split at hc
        · rename_i h; exact .inr (.inl h)
        · split at hc
          · rename_i h; exact .inr (.inr h)
          · omega
    refine(dR (F := ZR es.length (Vy es.length R)) (A := []) (ok := cj es.length (qc 2)) i h2 t noA (λv H h => (YM h).2) (r1 _ hc)).mono λe w2 hx => ?_;obtain⟨a1, a12, a2, γ, v, H', rfl, _, _, _, T, _⟩ := hx;rw[(YM T).1];exact bad 2 hn C (γ := γ) (a := qc 2) rfl a1 a12 a2 rfl
  · have hc3 : Vy es.length R = 3 := by
      unfold Vy at hc ⊢;split at hc
      · omega
      · split at hc
        · omega
        · split at hc
          · omega
          · rename_i h1 h2 h3
            rw[O h1, O h2, O h3]
    rw[hc3] at t
    have hN : ¬(R.number ≠ ((es.map (·.1)).length + 1 : Nat) \/ R.version < 0 \/ 30000 < R.day) := by
      rw[Ls];unfold Vy at hc3;split at hc3
      · omega
      · split at hc3
        · omega
        · split at hc3
          · omega
          · rename_i h1 h2 h3
            rintro(h|h|h)
            · exact h1 h
            · exact h2 h
            · exact h3 h
    by_cases he : R.err = 0
    · obtain⟨j, j1, j2, j3⟩ := YX (λj => TR.bars (jK es j) R) es.length
      by_cases hj : j < es.length
      · have hn : ji (es.map (·.1)) R = 7 := by
          unfold ji;rw[O hN, O (λh => h he), Y ⟨_, Vo hj, j3 hj⟩]
        obtain⟨m, m1, f, m2, m3⟩ := UW (R := R) (s1 := s1) (s2 := s2) (es := es) (tabs := zX (jz (cnt R.up) (cnt R.down)) KP.tabs) (by have := i.few; omega) (j3 hj);refine(dR (F := zX (ZR es.length 3) (Kq (cnt R.up) (cnt R.down) (qc 0) :: f)) (A := Kz j) (ok := cj es.length (qc 7)) i h2 (λg P => ?_) (Y8 j (by have := i.few; omega) j2) (λv H h => (YM h).2) (vE i.few R.up R.down hj m1 m2)).mono λe w2 hx => ?_
        · rcases zY P with P|P
          · exact t g P
          · rcases Lf.1 P with rfl|P
            · exact Kp hR h2 trivial (by rw[he]; rfl)
            · exact m3 g P
        · obtain⟨a1, a12, a2, γ, v, H', rfl, _, _, _, T, _⟩ := hx
          rw[(YM T).1];exact bad 7 hn C (γ := γ) (a := qc 7) rfl a1 a12 a2 rfl
      · have hjk : j = es.length := by omega
        have hno : ∀x ∈ es.map (·.1), ¬TR.bars x R := by
          intro x hx;obtain⟨n, n1, rfl⟩ := du hx;exact j2 n I
        have hn : ji (es.map (·.1)) R = 0 := by
          unfold ji;rw[O hN, O (λh => h he), O (λh => by obtain⟨x, hx, hb⟩ := h; exact hno x hx hb)]
        obtain⟨P, _, hd, _⟩ := uf hR hn;have hx9 : es.length <= 9 := by have := i.few; omega
        refine(dR (F := zX (ZR es.length 3) (Kq (cnt R.up) (cnt R.down) (qc 0) :: zel (cnt R.up) (cnt R.down) :: Sv es.length :: zX (kO (cnt R.up) 70 2070) (kO (cnt R.down) 71 2071))) (A := Kz es.length) (ok := cg es.length (cnt R.up) (cnt R.down)) i h2 (λg r => ?_)
          (Y8 es.length i.few (λn n1 => hno _ (Vo n1))) (λv H h => (sN h).1) r3).mono λe w2 hx => ?_
        · rcases zY r with r|r
          · exact t g r
          · rcases Lf.1 r with rfl|r
            · exact Kp hR h2 trivial (by rw[he]; rfl)
            rcases Lf.1 r with rfl|r
            · exact PH hR h2 P
            rcases Lf.1 r with rfl|r
            · exact Iu hR h2 P hd hx9
            · exact Vf hR h2 g r
        · obtain⟨a1, a12, a2, γ, v, H', rfl, hwf, hle, Q, T, hnew⟩ := hx
          obtain⟨b, sb, hb, e1, e2, u, d, rfl, g1, g2, g3, g4, g5⟩ := (sN T).2.ex;obtain⟨xb, cb⟩ := LM.1 (show(γ b).isSome = true from hwf.1);obtain⟨f1, f2, lo1⟩ := Xk (lo := 6003) Q g1 cb;obtain⟨xs, cs⟩ := LM.1 f1.1.1;obtain⟨xh, ch⟩ := LM.1 f1.2.1.1;obtain⟨_, f4, lo2⟩ := Xk (lo := 6003) Q g2 ch;obtain⟨f5, f6, lo3⟩ := Xk (lo := 6003) Q g5 cs;rw[zZ] at f4 f5 f6;obtain⟨o1, o2⟩ := V5 (R := R) (x1 := x1) (x2 := x2) (s1 := s1) (s2 := s2) i.qI.lists i.few;have hhead := Vm (R := R) (s1 := s1) (s2 := s2) (es := es) es.length hx9
          have f4' : zx prog w2 xh 29 (JN ((es ++ [(R, J γ u, J γ d)]).map (·.1))) := by
            rw[KT.Vq, (WFs.mono hle _ hhead).2, Jm hx9, (WFs.mono hle _ xr).2, bg, <- Kf] at f4;rw[Az];exact f4
          have k : ∀n, n < 12 -> J γ (nf n) = R.at n := λn hn => by rw[(WF.mono hle _ (ZT (R := R) (s1 := s1) (s2 := s2) (es := es) hn)).2, ZU hn]
          have f6' : zx prog w2 xs 42 (cellsOf (es ++ [(R, J γ u, J γ d)])) := by
            rw[KT.Vq, (WFs.mono hle _ o1).2, o2] at f6;rw[XG];simp only[K] at f6;rw[k 0 C, k 1 C, k 2 C, k 3 C, k 4 C, k 5 C, k 6 C, k 7 C, k 8 C, k 9 C, k 10 C, k 11 C] at f6;exact f6
          have hwu : WF γ u := (qb _ _).1 f5 u (Ay _ Oc);have hwd : WF γ d := (qb _ _).1 f5 d (Ay _ Oc)
          have q70 : J γ (.sym 70) = .string s1 := by
            have : γ 70 = some (Unk.place 70) := hle 70 _ (JV C);show qn ((γ 70).getD (0, 0, 0)) = _;rw[this, LW];exact kW s1
          have q71 : J γ (.sym 71) = .string s2 := by
            have : γ 71 = some (Unk.place 71) := hle 71 _ (JV C);show qn ((γ 71).getD (0, 0, 0)) = _;rw[this, LW];exact kW s2
          have lu := mQ k1 Q g3 hwu q70;have ld := mQ k2 Q g4 hwd q71
          have cut : ∀(y : Nat × Nat × Nat) (n z : Nat) (e : Bool), γ n = some y -> ∃c, c <= y.2.2 /\ J γ (.slice n 0 z z e) = .slice (some ⟨y.1, y.2.1, none⟩) z (z + c) := by
            intro y n z e hy
            cases e with
            | true => exact⟨0, zero_le _, by simp[J, Inj.addr, Inj.blk, Inj.sh, hy]⟩
            | false => exact⟨y.2.2, Lh _, by simp[J, Inj.addr, Inj.blk, Inj.sh, Inj.ext, hy]⟩
          obtain⟨cs', cs1, cs2⟩ := cut xs sb (es.length + 1) e1 cs;obtain⟨ch', ch1, ch2⟩ := cut xh hb (es.length + 2) e2 ch;refine⟨a1, a12, a2, .pointer (some ⟨xb.1, xb.2.1, none⟩), ?_, λh => Ld hn h, λ_ => ⟨J γ u, J γ d, ⟨⟨xb, (xh.1, xh.2.1, ch'), .slice (some ⟨xs.1, xs.2.1, none⟩) (es.length + 1) (es.length + 1 + cs'), rfl, ?_, zx.less f4' ch1, ⟨λh => ?_, λ_ => ⟨(xs.1, xs.2.1, cs'), ?_, zx.less f6' cs1⟩⟩, hnew _ _ lo1 cb, (show B xh.1 from hnew _ _ lo2 ch), λp n m hp => by cases hp; exact hnew _ _ lo3 cs⟩, λe he => ?_⟩⟩⟩
          · rw[hn, J]
            simp only[K];rw[show J γ (.ptr b 0) = .pointer (some ⟨xb.1, xb.2.1, none⟩) by simp[J, Inj.addr, Inj.blk, Inj.sh, cb]];rfl
          · simp only[K] at f2
            rw[show Nat.succ es.length = es.length + 1 from rfl, show Nat.add es.length 2 = es.length + 2 from rfl, cs2, ch2] at f2;rw[Lm];exact f2
          · exact Ld (congrArg List.length h) Oc
          · rw[Lm]; rfl
          · rcases LJ.1 he with he|he
            · exact a1.lists i.qI.lists e he
            · rw[Lu] at he
              subst he;exact⟨lu, ld⟩
    · have hn : ji (es.map (·.1)) R = R.err := by
        unfold ji;rw[O hN, Y he]
      have hv : J (KP.BN 6000 (val R s1 s2 es)) (.sym 2060) = .int .i64 (R.err : Nat) := KP.kp C C (show val R s1 s2 es 2060 = _ from rfl) rfl;refine(dR (F := zX (ZR es.length 3) [Kq (cnt R.up) (cnt R.down) (.sym 2060), .eq 1 (.sym 2060) (qc 0) false]) (A := []) (ok := cj es.length (.sym 2060)) i h2 (λg P => ?_) noA (λv H h => (YM h).2) r2).mono λe w2 hx => ?_
      · rcases zY P with P|P
        · exact t g P
        · simp only[Lf, Lq, Lo] at P
          rcases P with rfl|rfl
          · exact Kp hR h2 (YJ C C) hv
          · refine JQ (YJ C C) trivial hv (show J _ (qc 0) = .int .i64 ((0 : Nat) : Int) from rfl) ?_
            symm;simpa using λh => he I
      · obtain⟨a1, a12, a2, γ, v, H', rfl, _, hle, _, T, _⟩ := hx
        rw[(YM T).1];exact bad R.err hn he (γ := γ) (a := .sym 2060) (by rw[(WF.mono hle _ (YJ C C)).2, hv]) a1 a12 a2 rfl
end
end AP
namespace AR
open TR
open AP(of ZR bars kept kO Two unkA val ZT ZU YJ Qu Jy ak V5 QJ jK ZQ Vy KL UW ZP ay Vo du)
def vF(d:k<=8)(a b:En):(∀c,c<3->Ko k c (cnt a) (cnt b)=true)/\(∀c,c<4->zcr k c (cnt a) (cnt b)=true)/\gM k (cnt a) (cnt b)=true/\JS k (cnt a) (cnt b)=true:=by
 have h:=ZP (ay (p:=λk=>JU k=true) zkm zkl zkk zkj zki zkh zkg zkf zke d) a b;simp only[zl,Le]at h;obtain⟨e,h1,h2,h3⟩:=h;refine⟨λc hc=>jw e c ?_,λc hc=>jw h1 c ?_,h2,h3⟩
 .have:c=0\/c=1\/c=2:=by omega
  rcases this with rfl|rfl|rfl<;>decide
 .have:c=0\/c=1\/c=2\/c=3:=by omega
  rcases this with rfl|rfl|rfl|rfl<;>decide
def vE(e:k<=8)(a b:En)(g:j<k)(hi:i<2){f:List Fact}(l:yG i (AP.bars j)=some f):gO k (cnt a) (cnt b) j f=true:=by
 have h:=ZP (ay (p:=λk=>Yz k=true) zkd zkc zkb zka zj9 zj8 zj7 zj6 zj5 e) a b;have h1:=jw h j (Lr.2 g)
 have c:i∈[0,1]:=by
  have d:i=0\/i=1:=by omega
  rcases d with rfl|rfl
  .exact LG
  .exact LP _ LG
 have h2:=jw h1 i c;rw[l,ze]at h2;exact h2
def kL{p:Nat×X}(hp:p∈rows k):k≠0/\p=(6000,X.cells 86 (Nat.mul 14 k) (M.ofList (Qh k))):=by
 cases k with
 | zero=>cases hp
 | succ k=>exact⟨I,Lu.1 hp⟩
def Na(a:k≠0):(6000,X.cells 86 (Nat.mul 14 k) (M.ofList (Qh k)))∈rows k:=by
 cases k with
 | zero=>exact Ld rfl a
 | succ k=>exact Lu.2 rfl
def zjq(F:List Fact)(A:List (List (List Fact)))(p q:Nat)[Unk]:FitA (E F A p q):=by
 have:Fit (Qm prog AR.specs F (jz p q)):=QA KP.yQ KP.JL (λp hp=>by
  have hp:p∈[((68:Eu),Spec.fact),((69:Eu),Spec.fact),((70:Eu),Spec.fact)]:=hp;simp only[Lf,Lq,Lo]at hp
  rcases hp with rfl|rfl|rfl<;>trivial)
 exact AP.FitA.alts this.toFitA 26 62 A
def Di(n m:En):zP (jz (cnt n) (cnt m))=true:=by
 cases n<;>cases m
 .exact(by kernel_rfl:zP (jz 0 0)=true)
 .exact(by kernel_rfl:zP (jz 0 1)=true)
 .exact(by kernel_rfl:zP (jz 1 0)=true)
 .exact(by kernel_rfl:zP (jz 1 1)=true)
structure In(w:Ea)(wv:Ei)(es:List Ent)(R:zy)(v1 v2:Ei):Prop where
 rec_:R.Ok
 few:es.length<=8
 want:ZD w 86 wv es
 lists:Zw w es
 up:AtS w v1 R.up
 down:AtS w v2 R.down
section
variable{R:zy}{s1 s2:Ee}{es:List Ent}{v1 v2:Ei}{x1 x2:Ej}{w:Ea}{wv:Ei}
def back(hR:R.Ok)(h2:Two w R v1 v2 x1 x2 s1 s2){w':Ea}(a:@ql (unkA x1 x2 s1 s2 es) prog (jz (cnt R.up) (cnt R.down)) w'):AtS w' v1 R.up/\AtS w' v2 R.down:=by
 have:=Jy (es:=es) hR h2 (T:=[]) (w:=w') (by rw[zZ,AJ,show AP.jz (cnt R.up) (cnt R.down)=jz (cnt R.up) (cnt R.down) from zZ _ _];exact a);exact⟨this.1,this.2.1⟩
def Ug{F:List Fact}{A:List (List (List Fact))}{v:G}(i:In w wv es R v1 v2)(h2:Two w R v1 v2 x1 x2 s1 s2)
  (hf:letI:=unkA x1 x2 s1 s2 es;∀f∈F,zu prog (jz (cnt R.up) (cnt R.down)) (KP.BN 6000 (val R s1 s2 es)) f)
  (hA:letI:=unkA x1 x2 s1 s2 es;∀(i:Nat) l,A[i]?=some l->∃alt∈l,∀f∈alt,zu prog (jz (cnt R.up) (cnt R.down)) (KP.BN 6000 (val R s1 s2 es)) f)
  {n:Nat} (hv:letI:=unkA x1 x2 s1 s2 es;WF (KP.BN 6000 (val R s1 s2 es)) v/\J (KP.BN 6000 (val R s1 s2 es)) v = .int .i64 (n:Nat)) (hchk:run F A es.length (cnt R.up) (cnt R.down) v=true) :
  Calls prog 26 #[wv,.agg (R.l1++v1::v2::R.l2).toArray] w λe w2=>qh w w2/\m9 wv w w2/\ZD w2 86 wv es/\e = .returned (.int .i64 (n:Nat)):=by
 letI:=unkA x1 x2 s1 s2 es
 obtain⟨rx,q1,q2⟩:∃rx:Nat×Nat×Nat,(es=[]->wv = .slice none 0 0/\rx=(w.heap.size,0,0))/\(es≠[]->wv = .slice (some ⟨rx.1,rx.2.1,none⟩) es.length (es.length+rx.2.2)/\zx prog w rx 86 (cellsOf es)):=by
  by_cases he:es=[]
  .exact⟨(w.heap.size,0,0),λ_=>⟨i.want.1 he,rfl⟩,λh=>Ld he h⟩
  .obtain⟨y,h1,h2⟩:=i.want.2 he;exact⟨y,λh=>Ld h he,λ_=>⟨h1,h2⟩⟩
 have hne:es.length≠0->es≠[]:=λh e=>h (by rw[e];rfl);unfold run at hchk;let E':=E F A (cnt R.up) (cnt R.down)
 cases hr:qL E' (kh E' 1000000) 26 [arg es.length,ZL (cnt R.up) (cnt R.down)] (jD E' 6001 (rows es.length)) with
 | none=>rw[show qL (E F A (cnt R.up) (cnt R.down)) (kh (E F A (cnt R.up) (cnt R.down)) 1000000) 26 [arg es.length,ZL (cnt R.up) (cnt R.down)] (jD (E F A (cnt R.up) (cnt R.down)) 6001 (rows es.length))=none from hr]at hchk;cases hchk
 | some z=>
  obtain⟨u,H'⟩:=z;rw[show qL (E F A (cnt R.up) (cnt R.down)) (kh (E F A (cnt R.up) (cnt R.down)) 1000000) 26 [arg es.length,ZL (cnt R.up) (cnt R.down)] (jD (E F A (cnt R.up) (cnt R.down)) 6001 (rows es.length))=some (u,H') from hr,ze,zl,Le]at hchk;have hu:=zV _ _ hchk.1;subst hu
  have P:∀p∈rows es.length,H'.blk.get p.1=some p.2:=by
   intro p hp;have:=KP.W6 (α:=Nat×X) (p:=λq=>Z (H'.blk.get q.1) false λb=>Q0 b q.2) (l:=rows es.length) hchk.2 p hp
   cases hg:H'.blk.get p.1 with
   | none=>rw[hg]at this;cases this
   | some b=>
    rw[hg,ze]at this;rw[QZ this]
  let σ:=KP.Zm 6000 (val R s1 s2 es)
  let pl:Nat->Nat×Nat×Nat:=λ_=>rx
  let β:=qG σ 6000 1 pl
  have hle:(KP.BN 6000 (val R s1 s2 es)).le β:=kl C KP.ju;have b0:β 6000=some rx:=qH C C;obtain⟨a1,a2⟩:=V5 (R:=R) (x1:=x1) (x2:=x2) (s1:=s1) (s2:=s2) i.lists i.few;obtain⟨a5,a6⟩:=Qu (es:=es) i.rec_ h2
  have hin:∀p∈rows es.length,6000<=p.1/\p.1<6000+1:=by
   intro p hp;obtain⟨_,rfl⟩:=kL hp;exact⟨by show 6000<=6000;omega,by show 6000<6001;omega⟩
  have r:WF β (arg es.length)/\J β (arg es.length)=wv:=by
   by_cases he:es=[]
   .rw[(q1 he).1,he];exact⟨trivial,rfl⟩
   .rw[(q2 he).1]
    cases hes:es.length with
    | zero=>exact Ld (Ax hes) he
    | succ n=>
     refine⟨⟨by rw[b0];rfl,Lh _⟩,?_⟩;show J β (.slice 6000 0 (n+1) (n+1) false)=_;simp[J,Inj.addr,Inj.blk,Inj.sh,Inj.ext,b0]
  have hblk:∀p∈rows es.length,zO prog β p.2 (pl p.1) w:=by
   intro p hp;obtain⟨hn,rfl⟩:=kL hp;exact zx.blk (l:=Qh es.length) (QJ _) (WFs.mono hle _ a1).1 (by rw[(WFs.mono hle _ a1).2,a2];exact(q2 (hne hn)).2)
  have hinj:∀p∈rows es.length,∀q∈rows es.length,(pl p.1).1=(pl q.1).1->p.1=q.1:=by
   intro p hp q hq _;obtain⟨_,rfl⟩:=kL hp;obtain⟨_,rfl⟩:=kL hq;rfl
  have hsep:∀p∈rows es.length,∀t∈jz (cnt R.up) (cnt R.down),(Unk.place t.1).1≠(pl p.1).1:=by
   intro p hp t k e;obtain⟨hn,rfl⟩:=kL hp;obtain⟨arr,fz,g1,_⟩:=(q2 (hne hn)).2;have e:(Unk.place t.1).1=rx.1:=e;rw[<- e]at g1
   have key:∃(d:Eh) (g:Nat×Nat),w.heap[(Unk.place t.1).1]?=some (Obj.cells d 3 g):=by
    unfold jz at k;rcases LJ.1 k with k|k
    .have hb:=YH h2.a (β:=λid=>some (Unk.place id)) (λ_ _=>rfl) (b:=60) (q:=70) C rfl rfl t k
     have:t=(60,.ints 3 (.sym 70)):=by
      cases ho:R.up with
      | none=>rw[ho]at k;cases k
      | some o=>rw[ho]at k;exact Lu.1 k
     subst this;obtain⟨d,g,x,_⟩:=hb;exact⟨d,g,x⟩
    .have hb:=YH h2.b (β:=λid=>some (Unk.place id)) (λ_ _=>rfl) (b:=61) (q:=71) C rfl rfl t k
     have:t=(61,.ints 3 (.sym 71)):=by
      cases ho:R.down with
      | none=>rw[ho]at k;cases k
      | some o=>rw[ho]at k;exact Lu.1 k
     subst this;obtain⟨d,g,x,_⟩:=hb;exact⟨d,g,x⟩
   obtain⟨d,g,g3⟩:=key;rw[g3]at g1;simp only[Ag,Obj.cells.injEq]at g1;exact Ld (show(3:Nat)=86 from g1.2.1) C
  have Q:YF E' (zQ σ):=by
   intro fn q hq j l hl;have hq:(M.set .nil 26 ((62:Nat),A)).get fn=some q:=hq;rw[M.zN]at hq;split at hq
   .cases hq;exact hA j l hl
   .rw[M.get_nil]at hq;cases hq
  have hfacts:zJ E' (zQ σ):=hf
  have H:ql prog (jz (cnt R.up) (cnt R.down)) w:=by
   have:=ak (es:=es) i.rec_ h2 (T:=[]) (@ko (unkA x1 x2 s1 s2 es) _ _);rw[zZ,AJ,show AP.jz (cnt R.up) (cnt R.down)=jz (cnt R.up) (cnt R.down) from zZ _ _]at this;exact this
  have:=Wf (E:=E') (σ:=σ) (N:=6000) (m:=1) (pl:=pl) (zjq F A _ _) C KP.ju hfacts Q (Di _ _) H hin hblk hinj hsep hr ⟨r.1,(WF.mono hle _ a5).1,trivial⟩
  have ea:(K β [arg es.length,ZL (cnt R.up) (cnt R.down)]).toArray = #[wv,.agg (R.l1++v1::v2::R.l2).toArray]:=by
   rw[K,K,K,(WF.mono hle _ a5).2,a6,r.2]
  rw[ea]at this;refine this.mono λe w2 hx=>?_;obtain⟨hP,γ,rfl,g1,g2,g3,_⟩:=hx
  have lowγ:(KP.BN 6000 (val R s1 s2 es)).le γ:=λid y hy=>by
   have hid:id<6000:=by
    rcases LD id 6000 with h|h
    .exact h
    .rw[KP.UH C id h]at hy;cases hy
   rw[g2 id I];exact hle id y hy
  have c0:γ 6000=some rx:=by rw[g2 6000 C];exact b0
  refine⟨⟨λc arr t fz hc n1 n2 n3 n4=>hP.frame c (LO.1 hc).1 λj j1 j2 e=>?_,hP.size,hP.tape,hP.os,hP.output⟩,λc hc hn=>hP.frame c hc λj j1 j2 e=>?_,⟨i.want.1,λhe=>?_⟩,?_⟩
  .have e:rx.1=c:=e;by_cases he:es=[]
   .rw[(q1 he).2]at e;have:=(LO.1 hc).1;have e:w.heap.size=c:=e;omega
   .obtain⟨d,g,x,_⟩:=(q2 he).2;rw[e,hc]at x;simp only[Ag,Obj.cells.injEq]at x;exact n4 x.2.1
  .have e:rx.1=c:=e;by_cases he:es=[]
   .rw[(q1 he).2]at e;have e:w.heap.size=c:=e;omega
   .exact hn _ _ _ (q2 he).1 e
  .have hn:es.length≠0:=λh=>he (Ax h);have:=zx.of (l:=Qh es.length) (QJ _) (g3.blk 6000 _ rx (P _ (Na hn)) c0);rw[(WFs.mono lowγ _ a1).2,a2]at this;exact⟨rx,(q2 he).1,this⟩
  .rw[(WF.mono lowγ _ hv.1).2,hv.2]
end
open TR
open AP(of ZR bars kept kO Two unkA val ZT ZU YJ Qu jK ZQ Vy KL UW Vo du)
section
variable{R:zy}{s1 s2:Ee}{es:List Ent}{v1 v2:Ei}{x1 x2:Ej}{w:Ea}{wv:Ei}
noncomputable def stC(R:zy):Nat:=if isN R.tenant=false then 0 else if R.session<1 then 1 else if isN R.action=false then 2 else if isP R.path=false then 3 else 4
def zcT(R:zy):(stC R<4->R.err=SK (stC R))/\(stC R=4->R.err=R.ZM)/\stC R<=4:=by
 unfold stC zy.err;split
 .exact⟨λ_=>rfl,λh=>(by cases h),C⟩
 .split
  .exact⟨λ_=>rfl,λh=>(by cases h),C⟩
  .split
   .exact⟨λ_=>rfl,λh=>(by cases h),C⟩
   .split
    .exact⟨λ_=>rfl,λh=>(by cases h),C⟩
    .exact⟨λh=>Ld h C,λ_=>rfl,C⟩
def BO[Unk]{tabs:List (Nat×X)}(hR:R.Ok):∀f∈nK (stC R),zu prog tabs (KP.BN 6000 (val R s1 s2 es)) f:=by
 have w':∀i,i<12->WF (KP.BN 6000 (val R s1 s2 es)) (nf i):=λi hi=>ZT hi;have v:∀i,i<12->J (KP.BN 6000 (val R s1 s2 es)) (nf i)=R.at i:=λi hi=>ZU hi;have d:∀b:Bool,isN R.tenant=b->zu prog tabs (KP.BN 6000 (val R s1 s2 es)) (.call 68 [nf 2] (qx b)):=λb hb=>Zv (w' 2 C) (v 2 C) (λw=>hb ▸ M6 hR.tenant w);have e:∀b:Bool,b=decide (R.session<((1:Nat):Int))->zu prog tabs (KP.BN 6000 (val R s1 s2 es)) (.bin .lss (nf 3) (qc 1) (qx b)):=λb hb=>Z2 (w' 3 C) (v 3 C) hb;have g:∀b:Bool,isN R.action=b->zu prog tabs (KP.BN 6000 (val R s1 s2 es)) (.call 68 [nf 4] (qx b)):=λb hb=>Zv (w' 4 C) (v 4 C) (λw=>hb ▸ M6 hR.action w);have k:∀b:Bool,isP R.path=b->zu prog tabs (KP.BN 6000 (val R s1 s2 es)) (.call 69 [nf 5] (qx b)):=λb hb=>Zv (w' 5 C) (v 5 C) (λw=>hb ▸ zdv hR.path w);have T:∀ {b:Bool},¬b=false->b=true:=λh=>by simpa using h
 intro f a;unfold stC at a;split at a
 .rename_i c;have a:f∈[Fact.call 68 [nf 2] (qx false)]:=a;rw[Lu]at a;subst a;exact d _ c
 .rename_i c;split at a
  .rename_i h1;have a:f∈[Fact.call 68 [nf 2] (qx true),.bin .lss (nf 3) (qc 1) (qx true)]:=a;simp only[Lf,Lq,Lo]at a;rcases a with rfl|rfl
   .exact d _ (T c)
   .exact e _ (by symm;rw[Lk];exact h1)
  .rename_i h1;have j:false=decide (R.session<((1:Nat):Int)):=by symm;rw[LH];exact h1
   split at a
   .rename_i h2;have a:f∈[Fact.call 68 [nf 2] (qx true),.bin .lss (nf 3) (qc 1) (qx false),.call 68 [nf 4] (qx false)]:=a;simp only[Lf,Lq,Lo]at a;rcases a with rfl|rfl|rfl
    .exact d _ (T c)
    .exact e _ j
    .exact g _ h2
   .rename_i h2;split at a
    .rename_i h3;have a:f∈[Fact.call 68 [nf 2] (qx true),.bin .lss (nf 3) (qc 1) (qx false),.call 68 [nf 4] (qx true),.call 69 [nf 5] (qx false)]:=a;simp only[Lf,Lq,Lo]at a;rcases a with rfl|rfl|rfl|rfl
     .exact d _ (T c)
     .exact e _ j
     .exact g _ (T h2)
     .exact k _ h3
    .rename_i h3;have a:f∈[Fact.call 68 [nf 2] (qx true),.bin .lss (nf 3) (qc 1) (qx false),.call 68 [nf 4] (qx true),.call 69 [nf 5] (qx true)]:=a;simp only[Lf,Lq,Lo]at a;rcases a with rfl|rfl|rfl|rfl
     .exact d _ (T c)
     .exact e _ j
     .exact g _ (T h2)
     .exact k _ (T h3)
def gP{r:G}(hR:R.Ok)(h2:Two w R v1 v2 x1 x2 s1 s2):letI:=unkA x1 x2 s1 s2 es
  WF (KP.BN 6000 (val R s1 s2 es)) r->J (KP.BN 6000 (val R s1 s2 es)) r = .int .i64 (R.ZM:Nat) ->
  zu prog (jz (cnt R.up) (cnt R.down)) (KP.BN 6000 (val R s1 s2 es)) (Q9 (cnt R.up) (cnt R.down) r):=by
 letI:=unkA x1 x2 s1 s2 es;intro hw b;obtain⟨q1,q2⟩:=Qu (es:=es) hR h2;refine⟨⟨q1,trivial⟩,hw,λw a=>?_⟩;obtain⟨f,d⟩:=back (es:=es) hR h2 a
 have c:(K (KP.BN 6000 (val R s1 s2 es)) [ZL (cnt R.up) (cnt R.down)]).toArray = #[.agg (R.l1++v1::v2::R.l2).toArray]:=by
  rw[K,q2];rfl
 rw[c,b];exact(CH.xJ hR f d).mono λe w2 hx=>⟨hx.2,hx.1⟩
def Y8(j:Nat)(b:j<=8)(hb:∀i,i<j->¬TR.bars (jK es i) R)[Unk]{tabs:List (Nat×X)} :
  ∀(i:Nat) l,(Kz j)[i]?=some l->∃alt∈l,∀f∈alt,zu prog tabs (KP.BN 6000 (val R s1 s2 es)) f:=by
 intro i l hl;unfold Kz at hl;rw[Lw]at hl;obtain⟨a,ha,rfl⟩:=LU.1 hl;have hi:i<j:=by have:=(LL.1 ha).1;simpa using this
 rw[Ah hi]at ha;cases ha;exact KL I (hb i hi)
def Me(i:In w wv es R v1 v2):Calls prog 26 #[wv,.agg (R.l1++v1::v2::R.l2).toArray] w λe w2=>qh w w2/\m9 wv w w2/\ZD w2 86 wv es/\e = .returned (.int .i64 (ji (es.map (·.1)) R:Nat)):=by
 obtain⟨x1,s1,k1⟩:=WY i.up;obtain⟨x2,s2,k2⟩:=WY i.down;have h2:Two w R v1 v2 x1 x2 s1 s2:=⟨k1,k2⟩
 have hR:=i.rec_;letI:=unkA x1 x2 s1 s2 es;obtain⟨r1,r2,r3,r4⟩:=vF i.few R.up R.down;have b:=ZQ (R:=R) (s1:=s1) (s2:=s2) (es:=es) (tabs:=jz (cnt R.up) (cnt R.down)) hR es.length
 have k:∀(i:Nat) (l:List (List Fact)),([]:List (List (List Fact)))[i]?=some l->∃alt∈l,∀f∈alt,zu prog (jz (cnt R.up) (cnt R.down)) (KP.BN 6000 (val R s1 s2 es)) f:=by
  intro i l hl;cases hl
 by_cases hc:Vy es.length R<3
 .have hn:ji (es.map (·.1)) R=2:=by
   unfold ji;rw[Ls,Y];unfold Vy at hc;split at hc
   .rename_i h;exact .inl h
   .split at hc
    .rename_i h;exact .inr (.inl h)
    .split at hc
     .rename_i h;exact .inr (.inr h)
     .omega
  rw[hn];exact Ug (F:=ZR es.length (Vy es.length R)) (A:=[]) (v:=qc 2) i h2 b k ⟨trivial,rfl⟩ (r1 _ hc)
 .have c:Vy es.length R=3:=by
   unfold Vy at hc ⊢;split at hc
   .omega
   .split at hc
    .omega
    .split at hc
     .omega
     .rename_i h1 h2 h3;rw[O h1,O h2,O h3]
  rw[c]at b
  have hN:¬(R.number≠((es.map (·.1)).length+1:Nat)\/R.version<0\/30000<R.day):=by
   rw[Ls];unfold Vy at c;split at c
   .omega
   .split at c
    .omega
    .split at c
     .omega
     .rename_i h1 h2 h3;rintro(h|h|h)
      .exact h1 h
      .exact h2 h
      .exact h3 h
  obtain⟨T,e2,e3⟩:=zcT R;by_cases hs:stC R<4
  .have H:R.err≠0:=by
    rw[T hs];have:stC R=0\/stC R=1\/stC R=2\/stC R=3:=by omega
    rcases this with h|h|h|h<;>rw[h]<;>decide
   have hn:ji (es.map (·.1)) R=SK (stC R):=by
    unfold ji;rw[O hN,Y H,T hs]
   rw[hn]
   exact Ug (F:=zX (ZR es.length 3) (nK (stC R))) (A:=[]) (v:=qc (SK (stC R))) i h2 (λg a=>by
    rcases zY a with a|a
    .exact b g a
    .exact BO hR g a) k ⟨trivial,rfl⟩ (r2 _ hs)
  .have p:stC R=4:=by omega
   have d:=BO (R:=R) (s1:=s1) (s2:=s2) (es:=es) (tabs:=jz (cnt R.up) (cnt R.down)) hR;rw[p]at d;have u:=e2 p;by_cases he:R.err=0
   .have y:=gP (es:=es) (r:=qc 0) hR h2 trivial (by rw[<- u,he];rfl);obtain⟨j,j1,Q,P⟩:=YX (λj=>TR.bars (jK es j) R) es.length;by_cases z:j<es.length
    .have hn:ji (es.map (·.1)) R=7:=by
      unfold ji;rw[O hN,O (λh=>h he),Y ⟨_,Vo z,P z⟩]
     rw[hn];obtain⟨m,m1,f,m2,m3⟩:=UW (R:=R) (s1:=s1) (s2:=s2) (es:=es) (tabs:=jz (cnt R.up) (cnt R.down)) (by have:=i.few;omega) (P z)
     exact Ug (F:=zX (ZR es.length 3) (zX (nK 4) (Q9 (cnt R.up) (cnt R.down) (qc 0)::f))) (A:=Kz j) (v:=qc 7) i h2 (λg a=>by
      rcases zY a with a|a
      .exact b g a
      rcases zY a with a|a
      .exact d g a
      rcases Lf.1 a with rfl|a
      .exact y
      .exact m3 g a) (Y8 j (by have:=i.few;omega) Q) ⟨trivial,rfl⟩ (vE i.few R.up R.down z m1 m2)
    .have t:∀x∈es.map (·.1),¬TR.bars x R:=by
      intro x hx;obtain⟨n,n1,rfl⟩:=du hx;exact Q n I
     have hn:ji (es.map (·.1)) R=0:=by
      unfold ji;rw[O hN,O (λh=>h he),O (λh=>by obtain⟨x,hx,hb⟩:=h;exact t x hx hb)]
     rw[hn]
     exact Ug (F:=zX (ZR es.length 3) (zX (nK 4) [Q9 (cnt R.up) (cnt R.down) (qc 0)])) (A:=Kz es.length) (v:=qc 0) i h2 (λg a=>by
      rcases zY a with a|a
      .exact b g a
      rcases zY a with a|a
      .exact d g a
      rw[Lu]at a;subst a
      exact y) (Y8 es.length i.few (λn n1=>t _ (Vo n1))) ⟨trivial,rfl⟩ r4
   .have hn:ji (es.map (·.1)) R=R.err:=by
     unfold ji;rw[O hN,Y he]
    have hv:J (KP.BN 6000 (val R s1 s2 es)) (.sym 2060) = .int .i64 (R.err:Nat):=KP.kp C C (show val R s1 s2 es 2060=_ from rfl) rfl;rw[hn]
    exact Ug (F:=zX (ZR es.length 3) (zX (nK 4) [Q9 (cnt R.up) (cnt R.down) (.sym 2060),.eq 1 (.sym 2060) (qc 0) false])) (A:=[]) (v:=.sym 2060) i h2 (λg a=>by
     rcases zY a with a|a
     .exact b g a
     rcases zY a with a|a
     .exact d g a
     simp only[Lf,Lq,Lo]at a;rcases a with rfl|rfl
     .exact gP (es:=es) hR h2 (YJ C C) (by rw[hv,u])
     .refine JQ (YJ C C) trivial hv (show J _ (qc 0) = .int .i64 ((0:Nat):Int) from rfl) ?_;symm
      simpa using λh=>he I) k ⟨YJ C C,hv⟩ r3
end
end AR
namespace RH
open TR
open AP(of val yP XQ YJ jK QJ opq aJ W9 W7 Wu Yw nN VP Ki)
open KT(zB Wl)
structure Acc(R:zy):Prop where
 ok:R.Ok
 good:EN.Good R
 day:R.day<=30000
 ver:R.version<=4
open TR
open AP(of val yP XQ YJ jK QJ aJ W9 W7 Wu Yw nN VP Ki)
open KT(zB Wl)
@[reducible] def unkH (es:List Ent) (pl:Nat->Nat×Nat×Nat):Unk where
 val i:=AP.opq es (i-1000)
 plain i:=AP.lP _
 place g:=if 72<=g/\g<88 then(1000+g,0,0) else if 60<=g/\g<72 then pl (g-60) else if 88<=g/\g<92 then pl (g-76) else(g,0,0)
 glob g hg:=by rw[O I,O I,O I]
section
variable{es:List Ent}{pl:Nat->Nat×Nat×Nat}{k:Nat}{w0:Ea}
noncomputable abbrev V(es:List Ent):Nat->Value:=val default .empty .empty es
def zgB[Unk](j:Nat)(a:j<=9):WFs (KP.BN 6000 (V es)) (hd j):=by
 rw[qb];intro v hv;obtain⟨i,hi,rfl⟩:=Lv.1 hv;have hi:=Lr.1 hi;exact YJ (by show 100<=2500+32*j+i;omega) (by show 2500+32*j+i<6000;omega)
def zgC[Unk](a:j<=9):K (KP.BN 6000 (V es)) (hd j)=zB 32 (ja ((es.map (·.1)).take j)):=by
 unfold hd zB;rw[zC,LZ];refine Ab λi hi=>?_;have hi:=Lr.1 hi;show J _ (.sym (2500+32*j+i))=_;rw[show 2500+32*j+i=2500+(32*j+i) by omega,Wu I,show(32*j+i) / 32=j by omega,show(32*j+i) % 32=i by omega]
end
end RH
namespace TC
open TR
open AP(of rows kept kO unkA val Two WX kL aX aW aV ow QJ YW V5 Vm Jm Qu Jy ak Vf YJ ZT ZU mQ Xk UD Yw ZP)
open KT(zB)
def UK(F:List Fact)(T:List (Nat×X))[Unk]:Fit (E F T):=QA KP.yQ KP.JL (λp hp=>by
 have hp:p∈[((31:Eu),Spec.fact),((65:Eu),Spec.fact)]:=hp;simp only[Lf,Lq,Lo]at hp
 rcases hp with rfl|rfl<;>trivial)
section
variable{R:zy}{s1 s2:Ee}{es:List Ent}{x1 x2:Ej}{w:Ea}{tv:Ei}{B:Em}
def Fe{F : List Fact}{T : List (Nat × X)}{f : FuncId}{extra : List G}{ok : G -> Heap -> Bool}(few : es.length <= 8)(ht : qm B w tv es)
    (hcl : letI := unkA x1 x2 s1 s2 es; zP T = true) (hT : @ql (unkA x1 x2 s1 s2 es) prog T w)
    (hS : letI := unkA x1 x2 s1 s2 es; ∀t ∈ T, ∃(arr : Array Value) (fz : Nat × Nat) (u : Nat), w.heap[(Unk.place t.1).1]?=some (Obj.cells arr u fz) /\ u ≠ 96 /\ u ≠ 42 /\ u ≠ 29)
    (hf : letI := unkA x1 x2 s1 s2 es; ∀f ∈ F, zu prog T (KP.BN 6000 (val R s1 s2 es)) f) (hx : letI := unkA x1 x2 s1 s2 es; WFs (KP.BN 6000 (val R s1 s2 es)) extra)
    (hk : ∀v H, ok v H = true -> kept es.length H = true) (hchk : run F T f es.length extra ok = true) :
    Calls prog f (tv :: (letI := unkA x1 x2 s1 s2 es; K (KP.BN 6000 (val R s1 s2 es)) extra)).toArray w λe w2 => qh w w2 /\ Xa B w w2 /\ qm B w2 tv es /\
      (letI := unkA x1 x2 s1 s2 es; ∃a v H', e = .returned (J a v) /\ WF a v /\ (KP.BN 6000 (val R s1 s2 es)).le a /\ Rel prog a H' w2 /\ ok v H' = true) := by
  letI := unkA x1 x2 s1 s2 es;obtain⟨⟨x, hd, r, rfl, rw0, rw1, rr, bx, bh, br⟩, hl⟩ := ht
  obtain⟨rx, q1, q2⟩ : ∃rx : Nat × Nat × Nat, (es = [] -> r = .slice none 0 0 /\ rx = x) /\ (es ≠ [] -> r = .slice (some ⟨rx.1, rx.2.1, none⟩) es.length (es.length + rx.2.2) /\ zx prog w rx 42 (cellsOf es)) := by
    by_cases he : es = []
    · exact⟨x, λ_ => ⟨rr.1 he, rfl⟩, λh => Ld he h⟩
    · obtain⟨y, h1, h2⟩ := rr.2 he
      exact⟨y, λh => Ld h he, λ_ => ⟨h1, h2⟩⟩
  have hne : es.length ≠ 0 -> es ≠ [] := λh e => h (by rw[e]; rfl);unfold run at hchk;let E' := E F T
  cases hr : qL E' (kh E' 1000000) f (.ptr 6000 0 :: extra) (jD E' 6003 (rows es.length)) with
  | none => rw[show qL (E F T) (kh (E F T) 1000000) f (.ptr 6000 0 :: extra) (jD (E F T) 6003 (rows es.length)) = none from hr] at hchk; cases hchk
  | some z =>
    obtain⟨v, H'⟩ := z;rw[show qL (E F T) (kh (E F T) 1000000) f (.ptr 6000 0 :: extra) (jD (E F T) 6003 (rows es.length)) = some (v, H') from hr, ze] at hchk;let σ := KP.Zm 6000 (val R s1 s2 es);let pl : Nat -> Nat × Nat × Nat := λid => if id = 6000 then x else if id = 6001 then rx else hd
    let β := qG σ 6000 3 pl
    have hle : (KP.BN 6000 (val R s1 s2 es)).le β := kl C KP.ju;have b0 : β 6000 = some x := qH C C;have b1 : β 6001 = some rx := qH C C;have b2 : β 6002 = some hd := qH C C;obtain⟨a1, a2⟩ := V5 (R := R) (x1 := x1) (x2 := x2) (s1 := s1) (s2 := s2) hl few;have a3 := Vm (R := R) (s1 := s1) (s2 := s2) (es := es) es.length I;have a4 := Jm (R := R) (s1 := s1) (s2 := s2) (es := es) I
    have hin : ∀p ∈ rows es.length, 6000 <= p.1 /\ p.1 < 6000 + 3 := by
      intro p hp;rcases kL hp with rfl|⟨_, rfl⟩|rfl
      · exact⟨by show 6000 <= 6000; omega, by show 6000 < 6003; omega⟩
      · exact⟨by show 6000 <= 6001; omega, by show 6001 < 6003; omega⟩
      · exact⟨by show 6000 <= 6002; omega, by show 6002 < 6003; omega⟩
    have b : ∀a : Inj, a 6000 = some x -> a 6001 = some rx -> a 6002 = some hd -> WFs a [Qk es.length, .slice 6002 0 (Nat.succ es.length) (Nat.succ es.length) false] /\
        K a [Qk es.length, .slice 6002 0 (Nat.succ es.length) (Nat.succ es.length) false] = [r, .slice (some ⟨hd.1, hd.2.1, none⟩) (es.length + 1) (es.length + 1 + hd.2.2)] := by
      intro a c0 c1 c2
      have hs : WF a (Qk es.length) /\ J a (Qk es.length) = r := by
        by_cases he : es = []
        · rw[(q1 he).1, he]
          exact⟨trivial, rfl⟩
        · rw[(q2 he).1]
          cases hes : es.length with
          | zero => exact Ld (Ax hes) he
          | succ n =>
            refine⟨⟨by rw[c1]; rfl, Lh _⟩, ?_⟩;show J a (.slice 6001 0 (n + 1) (n + 1) false) = _;simp[J, Inj.addr, Inj.blk, Inj.sh, Inj.ext, c1]
      refine⟨⟨hs.1, ⟨by rw[c2]; rfl, Lh _⟩, trivial⟩, ?_⟩;simp only[K];rw[hs.2];simp[J, Inj.addr, Inj.blk, Inj.sh, Inj.ext, c2]
    have hblk : ∀p ∈ rows es.length, zO prog β p.2 (pl p.1) w := by
      intro p hp;rcases kL hp with rfl|⟨hn, rfl⟩|rfl
      · exact zx.blk (l := [Qk es.length, .slice 6002 0 (Nat.succ es.length) (Nat.succ es.length) false]) rfl (b β b0 b1 b2).1 (by rw[(b β b0 b1 b2).2]; exact rw0)
      · exact zx.blk (l := Qh es.length) (QJ _) (WFs.mono hle _ a1).1 (by rw[(WFs.mono hle _ a1).2, a2]; exact(q2 (hne hn)).2)
      · exact zx.blk (l := ZJ es.length) (YW _) (WFs.mono hle _ a3).1 (by rw[(WFs.mono hle _ a3).2, a4]; exact rw1)
    have types : ∀p ∈ rows es.length, ∃(arr : Array Value) (fz : Nat × Nat) (t : Nat), w.heap[(pl p.1).1]?=some (Obj.cells arr t fz) /\ (p.1 = 6000 /\ t = 96 \/ p.1 = 6001 /\ t = 42 \/ p.1 = 6002 /\ t = 29) := by
      intro p hp;rcases kL hp with rfl|⟨hn, rfl⟩|rfl
      · obtain⟨arr, fz, g, _⟩ := rw0
        exact⟨arr, fz, 96, g, .inl ⟨rfl, rfl⟩⟩
      · obtain⟨arr, fz, g, _⟩ := (q2 (hne hn)).2
        exact⟨arr, fz, 42, g, .inr (.inl ⟨rfl, rfl⟩)⟩
      · obtain⟨arr, fz, g, _⟩ := rw1
        exact⟨arr, fz, 29, g, .inr (.inr ⟨rfl, rfl⟩)⟩
    have hinj : ∀p ∈ rows es.length, ∀q ∈ rows es.length, (pl p.1).1 = (pl q.1).1 -> p.1 = q.1 := by
      intro p hp q hq e;obtain⟨arr, fz, t, g1, g2⟩ := types p hp;obtain⟨i, P, t', Q, g4⟩ := types q hq;rw[e, Q] at g1;simp only[Ag, Obj.cells.injEq] at g1;have : (_ : Nat) = (_ : Nat) := g1.2.1;omega
    have hsep : ∀p ∈ rows es.length, ∀t ∈ T, (Unk.place t.1).1 ≠ (pl p.1).1 := by
      intro p hp t ht e;obtain⟨arr, fz, u, g1, g2⟩ := types p hp;rw[<- e] at g1;obtain⟨i, P, u', Q, g4⟩ := hS t ht;rw[Q] at g1;simp only[Ag, Obj.cells.injEq] at g1;have : (_ : Nat) = (_ : Nat) := g1.2.1;omega
    have hfacts : zJ E' (zQ σ) := hf;have := Wf (E := E') (σ := σ) (N := 6000) (m := 3) (pl := pl) (UK F T).toFitA C KP.ju hfacts (Vv rfl) hcl hT hin hblk hinj hsep hr ⟨by show(β 6000).isSome = true; rw[b0]; rfl, (WFs.mono hle _ hx).1⟩
    have ea : (K β (.ptr 6000 0 :: extra)).toArray = (.pointer (some ⟨x.1, x.2.1, none⟩) :: K (KP.BN 6000 (val R s1 s2 es)) extra).toArray := by
      rw[K, (WFs.mono hle _ hx).2];simp[J, Inj.addr, Inj.blk, Inj.sh, b0]
    rw[ea] at this;refine this.mono λe w2 hx => ?_;obtain⟨hP, a, rfl, g1, g2, Q, _⟩ := hx
    have lowγ : (KP.BN 6000 (val R s1 s2 es)).le a := λid y hy => by
      have hid : id < 6000 := by
        rcases LD id 6000 with h|h
        · exact h
        · rw[KP.UH C id h] at hy; cases hy
      rw[g2 id I];exact hle id y hy
    have c0 : a 6000 = some x := by rw[g2 6000 C]; exact b0
    have c1 : a 6001 = some rx := by rw[g2 6001 C]; exact b1
    have c2 : a 6002 = some hd := by rw[g2 6002 C]; exact b2
    have hB : ∀j, 6000 <= j -> j < 6000 + 3 -> B (pl j).1 := by
      intro j j1 j2;have hj : j = 6000 \/ j = 6001 \/ j = 6002 := by omega
      rcases hj with rfl|rfl|rfl
      · exact bx
      · by_cases he : es = []
        · show B rx.1
          rw[(q1 he).2];exact bx
        · exact br _ _ _ (q2 he).1
      · exact bh
    have hlow : ∀c, c < w.heap.size -> ¬B c -> w2.heap[c]?=w.heap[c]? := λc hc hn => hP.frame c hc λj j1 j2 e => hn (e ▸ hB j j1 j2)
    have hk3 : Xa B w w2 := by
      refine⟨λc arr t fz hc n1 n2 n3 => hP.frame c (LO.1 hc).1 λj j1 j2 e => ?_, hlow⟩
      have key : ∃(i : Array Value) (P : Nat × Nat) (u' : Nat), w.heap[(pl j).1]?=some (Obj.cells i u' P) /\ (u' = 96 \/ u' = 42 \/ u' = 29) := by
        obtain⟨arr0, fz0, z0, _⟩ := rw0;obtain⟨arr2, fz2, z2, _⟩ := rw1;have hj : j = 6000 \/ j = 6001 \/ j = 6002 := by omega
        rcases hj with rfl|rfl|rfl
        · exact⟨arr0, fz0, 96, z0, .inl rfl⟩
        · by_cases he : es = []
          · refine⟨arr0, fz0, 96, ?_, .inl rfl⟩
            show w.heap[rx.1]?=_;rw[(q1 he).2];exact z0
          · obtain⟨arr1, fz1, z1, _⟩ := (q2 he).2
            exact⟨arr1, fz1, 42, z1, .inr (.inl rfl)⟩
        · exact⟨arr2, fz2, 29, z2, .inr (.inr rfl)⟩
      obtain⟨i, P, u', k1, k2⟩ := key;rw[e, hc] at k1;simp only[Ag, Obj.cells.injEq] at k1;have hkt : t = u' := k1.2.1;rcases k2 with k2|k2|k2
      · exact n1 (hkt.trans k2)
      · exact n2 (hkt.trans k2)
      · exact n3 (hkt.trans k2)
    have k : qh w w2 := ⟨λc arr t fz hc n1 n2 n3 _ => hk3.1 c arr t fz hc n1 n2 n3, hP.size, hP.tape, hP.os, hP.output⟩
    have d := ow (hk v H' hchk);refine⟨k, hk3, ⟨⟨x, hd, r, rfl, ?_, ?_, ⟨rr.1, λhe => ?_⟩, bx, bh, br⟩, k.lists hl⟩, a, v, H', rfl, g1, lowγ, Q, hchk⟩
    · have := zx.of (l := [Qk es.length, .slice 6002 0 (Nat.succ es.length) (Nat.succ es.length) false]) rfl (Q.blk 6000 _ x (d _ (aX _)) c0)
      rwa[(b a c0 c1 c2).2] at this
    · have := zx.of (l := ZJ es.length) (YW _) (Q.blk 6002 _ hd (d _ (aV _)) c2)
      rwa[(WFs.mono lowγ _ a3).2, a4] at this
    · have hn : es.length ≠ 0 := λh => he (Ax h)
      have := zx.of (l := Qh es.length) (QJ _) (Q.blk 6001 _ rx (d _ (aW hn)) c1);rw[(WFs.mono lowγ _ a1).2, a2] at this;exact⟨rx, (q2 he).1, this⟩
def MH{u v:G}(h:okV k u v H=true):v=u/\kept k H=true:=by
 unfold okV at h;simp only[zl,Le]at h;exact⟨zV _ _ h.1,h.2⟩
def reader{F:List Fact}{f:Eu}{extra:List G}{u:G}(few:es.length<=8)(a:qm B w tv es)
  (hf:letI:=unkA (0,0,0) (0,0,0) .empty .empty es;∀f∈F,zu prog [] (KP.BN 6000 (val R .empty .empty es)) f)
  (hx:letI:=unkA (0,0,0) (0,0,0) .empty .empty es;WFs (KP.BN 6000 (val R .empty .empty es)) extra) (hu:letI:=unkA (0,0,0) (0,0,0) .empty .empty es;WF (KP.BN 6000 (val R .empty .empty es)) u)
  (hchk:run F [] f es.length extra (okV es.length u)=true) :
  Calls prog f (tv::(letI:=unkA (0,0,0) (0,0,0) .empty .empty es;K (KP.BN 6000 (val R .empty .empty es)) extra)).toArray w λe w2=>qh w w2/\Xa B w w2/\qm B w2 tv es /\
   e = .returned (letI:=unkA (0,0,0) (0,0,0) .empty .empty es;J (KP.BN 6000 (val R .empty .empty es)) u):=by
 letI:=unkA (0,0,0) (0,0,0) .empty .empty es;refine(Fe (R:=R) (x1:=(0,0,0)) (x2:=(0,0,0)) (s1:=.empty) (s2:=.empty) few a rfl ko (λt a=>by cases a) hf hx (λv H h=>(MH h).2) hchk).mono λe w2 hx=>?_;obtain⟨g,d,c,i,v,H',rfl,_,hle,_,b⟩:=hx;rw[(MH b).1];exact⟨g,d,c,by rw[(WF.mono hle _ hu).2]⟩
def zc5(d:k<=8):Dm k=true/\P6 k=true/\pg k true=true/\pg k false=true/\(∀j,j<=k->P7 k j=true)/\(k≠0->∀a b:Option ByteArray,uw k (cnt a) (cnt b)=true):=by
 have h:=AP.ay (p:=λk=>gK k=true) ziJ ziI ziH ziG ziF ziE ziD ziC ziB d;unfold gK at h;simp only[zl,Le]at h;obtain⟨h1,h2,h3,g,f,c⟩:=h;refine⟨h1,h2,h3,g,λj e=>jw (p:=λj=>P7 k j) (l:=List.range (Nat.succ k)) f j (Lr.2 (lt_succ_of_le e)),λhn a b=>?_⟩
 cases k with
 | zero=>exact Ld rfl hn
 | succ k=>
  dsimp only[jY]at c;exact ZP c a b
def TB(j:Nat):ZX j=RH.hd j:=rfl
def aZ[Unk](a:j<=9):WFs (KP.BN 6000 (val default .empty .empty es)) (ZX j)/\J (KP.BN 6000 (val default .empty .empty es)) (.agg (ZX j)) = .agg (zB 32 (ja ((es.map (·.1)).take j))).toArray:=by
 rw[TB];exact⟨RH.zgB _ a,by rw[J,RH.zgC a]⟩
def mz(few:es.length<=8)(a:qm B w tv es):Calls prog 8 #[tv] w λe w2=>qh w w2/\Xa B w w2/\qm B w2 tv es/\e = .returned (.agg (zB 32 (ja (es.map (·.1)))).toArray):=by
 letI:=unkA (0,0,0) (0,0,0) .empty .empty es;have:=reader (R:=default) (F:=[]) (f:=8) (extra:=[]) (u:=.agg (ZX es.length)) few a (λf b=>by cases b) trivial (aZ I).1 (zc5 few).1
 have c:J (KP.BN 6000 (val default .empty .empty es)) (.agg (ZX es.length)) = .agg (zB 32 (ja (es.map (·.1)))).toArray:=by
  rw[(aZ I).2,AO (by rw[Ls];exact Lh _)]
 rw[c]at this;exact this
end
open TR
open AP(of rows kept kO unkA val Two WX V5 Vm Jm Qu Jy ak Vf YJ ZT ZU yP XQ mQ Xk UD Yw ZP jK MG)
open KT(zB)
section
variable{es:List Ent}{w:Ea}{tv:Ei}{B:Em}
def Up(hB:∀c,w.heap.size<=c->B c)(hk:kG w):Calls prog 22 #[] w λe w2=>Grown w w2/\∃t,e = .returned t/\qm B w2 t []:=by
 letI:=unkA (0,0,0) (0,0,0) .empty .empty [];let v:=E [Wn] KP.tabs;have hc:=tcw;unfold JS at hc
 cases Q:qL v (kh v 1000000) 22 [] (jt v 6003) with
 | none=>rw[show qL (E [Wn] KP.tabs) (kh (E [Wn] KP.tabs) 1000000) 22 [] (jt (E [Wn] KP.tabs) 6003)=none from Q]at hc;cases hc
 | some p=>
  obtain⟨u,H'⟩:=p;rw[show qL (E [Wn] KP.tabs) (kh (E [Wn] KP.tabs) 1000000) 22 [] (jt (E [Wn] KP.tabs) 6003)=some (u,H') from Q,ze]at hc;obtain⟨l1,l2⟩:=aZ (es:=[]) (j:=0) C
  have g:zJ v (KP.BN 6000 (val default .empty .empty [])):=by
   intro f g;have g:f∈[Wn]:=g;rw[Lu]at g;subst g;refine⟨⟨(by intro b hb;simp only[KT.Xd,Lf,Lq,Lo]at hb;omega),trivial,trivial⟩,show WFs _ (ZX 0) from l1,λw ht=>?_⟩;rw[l2];exact Calls.mono (show Calls prog 31 #[.string (str KT.Xd),.slice none 0 0] w _ from KT.zcN (@WU KP.unkK w (nk ht))) λe w2 hx=>⟨hx.2,hx.1⟩
  have:=jC (N:=6003) (σ:=KP.Zm 6000 (val default .empty .empty [])) (UK [Wn] KP.tabs) C (λid z h=>Nat.lt_trans (KP.ju id z h) C) g KP.jL Q trivial (w:=w) (WU hk);refine Calls.mono (show Calls prog 22 #[] w _ from this) λe w2 hx=>?_;obtain⟨hg,k,rfl,g1,g2,g3,g4⟩:=hx;replace hc:cg u H'=true:=hc;unfold cg at hc;cases u<;>simp only at hc<;>first|(cases hc;done)|skip
  rename_i b o;rw[zl,Le,zA,Ll]at hc;obtain⟨rfl,hc⟩:=hc
  cases a:H'.row b with
  | none=>rw[a]at hc;cases hc
  | some r=>
   rw[a,ze]at hc
   cases hh:r.c.get 1 with
   | none=>rw[hh]at hc;cases hc
   | some h=>
    rw[hh,ze]at hc;obtain⟨hb,e2,rfl,hc⟩:=UD hc;rw[zl,Le]at hc;obtain⟨k1,k2⟩:=hc;obtain⟨i,cb⟩:=LM.1 (show(k b).isSome=true from g1);obtain⟨f1,T,H⟩:=Xk (lo:=6003) g3 k1 cb;obtain⟨d,l⟩:=LM.1 f1.2.1.1;obtain⟨_,f4,x⟩:=Xk (lo:=6003) g3 k2 l
    have lowγ:(KP.BN 6000 (val default .empty .empty [])).le k:=λid y P=>by
     have hid:id<6000:=by
      rcases LD id 6000 with h|h
      .exact h
      .rw[KP.UH C id h]at P;cases P
     rw[g2 id I];exact P
    have h0:=Vm (R:=default) (s1:=.empty) (s2:=.empty) (es:=[]) 0 C;have h1:=Jm (R:=default) (s1:=.empty) (s2:=.empty) (es:=[]) C;rw[(WFs.mono lowγ _ h0).2,show ZJ 0=ZJ ([]:List Ent).length from rfl,h1]at f4
    have cut:∃c,c<=d.2.2/\J k (.slice hb 0 1 1 e2) = .slice (some ⟨d.1,d.2.1,none⟩) 1 (1+c):=by
     cases e2 with
     | true=>exact⟨0,zero_le _,by simp[J,Inj.addr,Inj.blk,Inj.sh,l]⟩
     | false=>exact⟨d.2.2,Lh _,by simp[J,Inj.addr,Inj.blk,Inj.sh,Inj.ext,l]⟩
    obtain⟨c,c1,c2⟩:=cut;refine⟨hg,.pointer (some ⟨i.1,i.2.1,none⟩),?_,⟨⟨i,(d.1,d.2.1,c),.slice none 0 0,rfl,?_,AP.zx.less f4 c1,⟨λ_=>rfl,λh=>Ld rfl h⟩,hB _ (g4 _ _ H cb),(show B d.1 from hB _ (g4 _ _ x l)),λp n m h=>by cases h⟩,λe he=>by cases he⟩⟩
    .rw[show J k (.ptr b 0) = .pointer (some ⟨i.1,i.2.1,none⟩) by simp[J,Inj.addr,Inj.blk,Inj.sh,cb]]
    .simp only[K]at T;rw[c2]at T;exact T
def Mg{R:zy}(hR:R.Ok)(h1:AtS w v1 R.up)(h2:AtS w v2 R.down):Calls prog 25 #[.agg (R.l1++v1::v2::R.l2).toArray] w λe w2=>Grown w w2/\∃u1 u2,e = .returned (.agg (R.l1++u1::u2::R.l2).toArray)/\AtS w2 u1 R.up/\AtS w2 u2 R.down:=by
 obtain⟨x1,s1,H⟩:=WY h1;obtain⟨x2,s2,k2⟩:=WY h2;have two:Two w R v1 v2 x1 x2 s1 s2:=⟨H,k2⟩
 letI:=unkA x1 x2 s1 s2 [];let i:=iJ (cnt R.up) (cnt R.down);have hc:xF (cnt R.up) (cnt R.down)=true:=ZP tcr R.up R.down;unfold xF at hc
 cases v:qL i (kh i 1000000) 25 [ZL (cnt R.up) (cnt R.down)] (jt i 6003) with
 | none=>rw[show qL (iJ (cnt R.up) (cnt R.down)) (kh (iJ (cnt R.up) (cnt R.down)) 1000000) 25 [ZL (cnt R.up) (cnt R.down)] (jt (iJ (cnt R.up) (cnt R.down)) 6003)=none from v]at hc;cases hc
 | some p=>
  obtain⟨u,H'⟩:=p;rw[show qL (iJ (cnt R.up) (cnt R.down)) (kh (iJ (cnt R.up) (cnt R.down)) 1000000) 25 [ZL (cnt R.up) (cnt R.down)] (jt (iJ (cnt R.up) (cnt R.down)) 6003)=some (u,H') from v,ze]at hc;have f:Fit i:=QA KP.yQ KP.JL (λp hp=>by cases hp);obtain⟨a1,a2⟩:=Qu (es:=[]) hR two;have hf:zJ i (zQ (KP.Zm 6000 (val R s1 s2 []))):=Vf (es:=[]) (T:=AP.jz (cnt R.up) (cnt R.down)) hR two
  have c:ql prog (AP.jz (cnt R.up) (cnt R.down)) w:=by
   have:=ak (es:=[]) hR two (T:=[]) (@ko (unkA x1 x2 s1 s2 []) _ _);rw[zZ,AJ]at this;exact this
  have x:zP (AP.jz (cnt R.up) (cnt R.down))=true:=by
   rw[show AP.jz (cnt R.up) (cnt R.down)=Go.AEv.jz (cnt R.up) (cnt R.down) from zZ _ _];exact AR.Di _ _
  have:=jC (N:=6003) (σ:=KP.Zm 6000 (val R s1 s2 [])) f C (λid z h=>Nat.lt_trans (KP.ju id z h) C) hf x v ⟨a1,trivial⟩ (w:=w) c;have ea:(K (KP.BN 6000 (val R s1 s2 [])) [ZL (cnt R.up) (cnt R.down)]).toArray = #[.agg (R.l1++v1::v2::R.l2).toArray]:=by rw[K,K,a2]
  rw[show zQ (KP.Zm 6000 (val R s1 s2 []))=KP.BN 6000 (val R s1 s2 []) from rfl,ea]at this;refine this.mono λe w2 hx=>?_;obtain⟨hg,b,rfl,g1,g2,Q,g4⟩:=hx
  have lowγ:(KP.BN 6000 (val R s1 s2 [])).le b:=λid y m=>by
   have hid:id<6000:=by
    rcases LD id 6000 with h|h
    .exact h
    .rw[KP.UH C id h]at m;cases m
   rw[g2 id I];exact m
  replace hc:MK (cnt R.up) (cnt R.down) u H'=true:=hc;unfold MK at hc;cases u<;>simp only at hc<;>first|(cases hc;done)|skip
  rename_i l
  cases P:yG 9 l with
  | none=>rw[P]at hc;cases hc
  | some u=>
   rw[P,ze]at hc
   cases g:yG 10 l with
   | none=>rw[g]at hc;cases hc
   | some d=>
    rw[g,ze,zl,Le,zl,Le]at hc;obtain⟨c1,c2,c3⟩:=hc;obtain rfl:=j5 _ _ c3;have g1:WFs b _:=g1;have r:WF b u:=(qb _ _).1 g1 u Oc;have t:WF b d:=(qb _ _).1 g1 d Oc
    have k:J b (.sym 70) = .string s1:=by
     have:b 70=some (Unk.place 70):=lowγ 70 _ (JV C);show qn ((b 70).getD (0,0,0))=_;rw[this,LW];exact kW s1
    have j:J b (.sym 71) = .string s2:=by
     have:b 71=some (Unk.place 71):=lowγ 71 _ (JV C);show qn ((b 71).getD (0,0,0))=_;rw[this,LW];exact kW s2
    have a:∀n,n<12->J b (nf n)=R.at n:=λn hn=>by rw[(WF.mono lowγ _ (ZT (R:=R) (s1:=s1) (s2:=s2) (es:=[]) hn)).2,ZU hn]
    refine⟨hg,J b u,J b d,?_,mQ H Q c1 r k,mQ k2 Q c2 t j⟩;rw[J];simp only[K];rw[a 0 C,a 1 C,a 2 C,a 3 C,a 4 C,a 5 C,a 6 C,a 7 C,a 8 C,a 9 C,a 10 C,a 11 C];rfl
end
end TC
section
open TR
def Grown.trans'{a b c:Ea}(h:Grown a b)(k:Grown b c):Grown a c:=
 ⟨λi hi=>by rw[k.old i (LK hi h.size),h.old i hi],Lj h.size k.size,k.tape.trans h.tape,k.os.trans h.os,k.output.trans h.output⟩
def zc(w:Ea)(o:Obj):Grown w (w.alloc o):=
 ⟨λi hi=>by unfold World.alloc;exact getElem?_push_lt hi ▸ (Av hi).symm,by unfold World.alloc;simp,rfl,rfl,rfl⟩
abbrev own(w0:Ea):Nat->Prop:=λc=>w0.heap.size<=c
def iZ(Rs:List zy):Prop:=∀j R,Rs[j]?=some R->ji (Rs.take j) R=0
def tP:iZ []:=λ_ _ h=>by cases h
def iZ.snoc{a:List zy}{R:zy}(h:iZ a)(hR:ji a R=0):iZ (a++[R]):=by
 intro j x hx;rcases LD j a.length with b|b
 .rw[Ao b]at hx;rw[take_append_of_le_length I];exact h j x hx
 .rw[Aj b]at hx;have c:j-a.length=0:=by have:=(LL.1 hx).1;simpa using this
  rw[c]at hx;cases hx;rw[show j=a.length by omega,take_append_of_le_length (Lh _),take_length];exact hR
structure St(B:Em)(w0 w:Ea)(t want:Ei)(es fs:List Ent):Prop where
 g:Grown w0 w
 old:∀c,B c->w0.heap.size<=c
 tr:qm B w t es
 rows:ZD w 86 want fs
 low:∀p n m,want = .slice (some p) n m->B p.block
 lists:Zw w fs
 same:fs.map (·.1)=es.map (·.1)
 acc:∀e∈fs,RH.Acc e.1
 hist:iZ (fs.map (·.1))
def St.grown{B:Em}{t want:Ei}{es e:List Ent}(h:St B u w t want es e)(g:Grown w w2):St B u w2 t want es e:=
 ⟨h.g.trans' g,h.old,Yg g h.tr,Kh g h.rows,h.low,(qh.zH g).lists h.lists,h.same,h.acc,h.hist⟩
def vG{B:Em}(k:Xa B w w2){es:List Ent}(h:ZD w 86 v es):ZD w2 86 v es:=by
 refine⟨h.1,λhn=>?_⟩;obtain⟨x,e,a⟩:=h.2 hn;refine⟨x,e,@zx.heap unk0 _ _ _ _ _ _ a ?_⟩;obtain⟨arr,fz,h1,_⟩:=a;exact k.1 _ _ _ _ h1 C C C
def St.qI{B:Em}{t want:Ei}{es e:List Ent}(h:St B u w t want es e)(k:qh w w2)(k3:Xa B w w2)(a:qm B w2 t es):St B u w2 t want es e:=
 ⟨⟨λc hc=>by rw[k3.2 c (LK hc h.g.size) (λhb=>by have:=h.old c hb;omega),h.g.old c hc],Lj h.g.size k.size,k.tape.trans h.g.tape,k.os.trans h.g.os,k.output.trans h.g.output⟩,h.old,a,vG k3 h.rows,h.low,k.lists h.lists,h.same,h.acc,h.hist⟩
def XX{B:Em}{t:Ei}{es g:List Ent}(c:ZD w 86 v g)(k:qh w w2)(kw:m9 v w w2)(j:qm B w t es):qm B w2 t es:=by
 have key:∀ {x:Ej}{u:Eg}{a:Ec},u≠86->zx prog w x u a->zx prog w2 x u a:=by
  intro x u a i h;refine @zx.heap unk0 _ _ _ _ _ _ h (kw _ (zx.lt h) λp n m e hp=>?_);by_cases d:g=[]
  .rw[c.1 d]at e;cases e
  .obtain⟨y,H,b⟩:=c.2 d;rw[H]at e;cases e;exact zx.ne h b i hp.symm
 obtain⟨⟨x,hd,r,h1,h2,h3,f,z⟩,l⟩:=j;refine⟨⟨x,hd,r,h1,key C h2,key C h3,⟨f.1,λhn=>?_⟩,z⟩,k.lists l⟩;obtain⟨y,e,b⟩:=f.2 hn;exact⟨y,e,key C b⟩
def St.want{B:Em}{u w w2:Ea}{t want:Ei}{es a:List Ent}(h:St B u w t want es a)(k:qh w w2)(kw:m9 want w w2)(b:ZD w2 86 want a):St B u w2 t want es a:=
 ⟨⟨λc hc=>by rw[kw c (LK hc h.g.size) (λp n m e hp=>by have:=h.old _ (h.low p n m e);omega),h.g.old c hc],Lj h.g.size k.size,k.tape.trans h.g.tape,k.os.trans h.g.os,k.output.trans h.g.output⟩,h.old,
  XX h.rows k kw h.tr,b,h.low,k.lists h.lists,h.same,h.acc,h.hist⟩
def vn(h:WO w)(g:Grown w w2):WO w2:=by
 obtain⟨a,h1,h2⟩:=h;letI:=unk0;exact⟨a,h1,λp hp=>zO.Jl (h2 p hp) g.old⟩
def eC{s:Sl4}(h:s.In w)(g:Grown w w2):s.In w2:=by
 intro b o hb a;obtain⟨arr,t,fz,h1,h2⟩:=h b o hb a;exact⟨arr,t,fz,by rw[g.old b (LO.1 h1).1];exact h1,h2⟩
abbrev Zy(R:zy)(p1 p2:Ed)(n1 n2 c1 c2:Nat):Value:=.agg #[.int .i64 R.number,.int .i64 R.version,.string R.tenant,.int .i64 R.session,.string R.action,.string R.path,.int .i64 R.day,.bool R.granted,.int .i64 R.user,.slice p1 n1 c1,.slice p2 n2 c2,.string R.does,.string R.at_,.bool R.deep]
structure Rd(w0 w:Ea)(t want:Ei)(es fs:List Ent)(R:zy)(v1 v2:Ei):Prop where
 st:St (own w0) w0 w t want es fs
 ok:R.Ok
 ver:R.version<=4
 up:AtS w v1 R.up
 down:AtS w v2 R.down
def Rd.Jl{t want:Ei}{es e:List Ent}{R:zy}(h:Rd u w t want es e R v1 v2)(k:qh w w2)(hs:St (own u) u w2 t want es e):Rd u w2 t want es e R v1 v2:=⟨hs,h.ok,h.ver,k.atS h.up,k.atS h.down⟩
def Rd.grown{t want:Ei}{es e:List Ent}{R:zy}(h:Rd u w t want es e R v1 v2)(g:Grown w w2):Rd u w2 t want es e R v1 v2:=h.Jl (qh.zH g) (h.st.grown g)
def Box(w:Ea)(b:Nat)(R:zy)(p1 p2:Ed)(n1 n2 c1 c2:Nat):Prop:=zx prog w (b,0,0) 86 (yX (R,.slice p1 n1 c1,.slice p2 n2 c2))
def zbs(w:Ea)(b:Nat)(R:zy)(p1 p2:Ed)(n1 n2 c1 c2:Nat):Prop:=
 w.cell? ⟨b,0,none⟩=some (.int .i64 R.number)/\w.cell? ⟨b,1,none⟩=some (.int .i64 R.version)/\w.cell? ⟨b,2,none⟩=some (.string R.tenant)/\w.cell? ⟨b,3,none⟩=some (.int .i64 R.session)/\w.cell? ⟨b,4,none⟩=some (.string R.action)/\w.cell? ⟨b,5,none⟩=some (.string R.path) /\
 w.cell? ⟨b,6,none⟩=some (.int .i64 R.day)/\w.cell? ⟨b,7,none⟩=some (.bool R.granted)/\w.cell? ⟨b,8,none⟩=some (.int .i64 R.user)/\w.cell? ⟨b,9,none⟩=some (.slice p1 n1 c1)/\w.cell? ⟨b,10,none⟩=some (.slice p2 n2 c2)/\w.cell? ⟨b,11,none⟩=some (.string R.does) /\
 w.cell? ⟨b,12,none⟩=some (.string R.at_)/\w.cell? ⟨b,13,none⟩=some (.bool R.deep)
def Box.cells{b:Nat}{R:zy}{c1:Nat}(h:Box w b R p1 p2 n1 n2 c1 c2):zbs w b R p1 p2 n1 n2 c1 c2:=by
 have key:∀j v,(yX (R,Value.slice p1 n1 c1,Value.slice p2 n2 c2))[j]?=some v->w.cell? ⟨b,j,none⟩=some v:=λj v a=>by
  have:=TR.cell_of_row h a;rwa[Lz]at this
 exact⟨key 0 _ rfl,key 1 _ rfl,key 2 _ rfl,key 3 _ rfl,key 4 _ rfl,key 5 _ rfl,key 6 _ rfl,key 7 _ rfl,key 8 _ rfl,key 9 _ rfl,key 10 _ rfl,key 11 _ rfl,key 12 _ rfl,key 13 _ rfl⟩
end
section
open TR
def MA{b:Nat}{o:En}(h:aa prog .i64 3 w w2 b v o):AtS w2 v o:=by
 cases o with
 | none=>exact h
 | some s=>
  obtain⟨x,arr,fz,_,hn⟩:=h;exact⟨x,arr,fz,hn.is,hn.row,hn.cap,hn.size,hn.cell,hn.thaw⟩
def zkT(w0:Ea)(t want:Ei)(es fs:List Ent)(e:Ew)(w2:Ea):Prop:=
 ∃(R:zy) (p1 p2:Ed) (n1 n2 c1 c2:Nat),e = .returned (Zy R p1 p2 n1 n2 c1 c2)/\Rd w0 w2 t want es fs R (.slice p1 n1 c1) (.slice p2 n2 c2)
def zgK{a:Ea}(j:WO a)(x:J2)(hx:∀m,1<=m->m<=8->J2.Ok { x with num:=m })(i:x.u.In a)(hd:x.d.In a)(l:k<=7){t want:Ei}{es b:List Ent}(H:St (own a) a w t want es b) :
  Calls prog 24 #[.agg #[.int .u8 (x.ten:Nat),.int .u8 (x.ver:Nat),.int .u8 (x.day:Nat),.int .u8 (x.odd:Nat),.int .u8 (x.rs:Nat),.int .u8 (x.ra:Nat),.int .u8 (x.rp:Nat),.bool x.granted,.bool x.right,
   .int .u8 (x.user:Nat),.int .u8 (x.perm:Nat),.slice x.u.p x.u.n x.u.c,.slice x.d.p x.d.n x.d.c,.bool x.why],.int .i64 ((k:Int)+1),.slice none 0 0] w (zkT a t want es b):=by
 obtain⟨R,⟨h1,h2⟩,hc⟩:=F9 { x with num:=k+1 } (hx _ I I);refine Calls.mono (hc w (vn j H.g) (eC i H.g) (eC hd H.g)) λe w2 hp=>?_;obtain⟨g,v1,v2,v,r,_,rfl,o1,o2⟩:=hp;have h:=MA o1;have f:=MA o2;obtain⟨p1,c1,rfl⟩:=h.slice;obtain⟨p2,c2,rfl⟩:=f.slice;exact⟨R,p1,p2,_,_,c1,c2,rfl,H.grown g,h1,h2,h,f⟩
def zkI(w0:Ea)(t want:Ei)(es fs:List Ent)(R:zy)(b:Nat)(p1 p2:Ed)(n1 n2 c1 c2:Nat)(e:Ew)(w2:Ea):Prop:=
 ∃(q1 q2:Ed) (m1 m2 d1 d2:Nat),e = .returned (Zy R q1 q2 m1 m2 d1 d2)/\(Rd w0 w2 t want es fs R (.slice p1 n1 c1) (.slice p2 n2 c2)/\Box w2 b R p1 p2 n1 n2 c1 c2)/\AtS w2 (.slice q1 m1 d1) R.up/\AtS w2 (.slice q2 m2 d2) R.down
def zfF{t want:Ei}{es a:List Ent}{R:zy}(b:Nat){c1:Nat}(H:Rd u w t want es a R (.slice p1 n1 c1) (.slice p2 n2 c2))(hb:Box w b R p1 p2 n1 n2 c1 c2) :
  Calls prog 25 #[Zy R p1 p2 n1 n2 c1 c2] w (zkI u t want es a R b p1 p2 n1 n2 c1 c2):=by
 refine Calls.mono (TC.Mg H.ok H.up H.down) λe w2 hp=>?_;obtain⟨g,v1,v2,rfl,d,c⟩:=hp;obtain⟨q1,d1,rfl⟩:=d.slice;obtain⟨q2,d2,rfl⟩:=c.slice;exact⟨q1,q2,_,_,d1,d2,rfl,⟨H.grown g,qi g hb⟩,d,c⟩
def mW{B:Em}(k:Xa B w w2){b:Nat}{R:zy}{c1:Nat}(h:Box w b R p1 p2 n1 n2 c1 c2):Box w2 b R p1 p2 n1 n2 c1 c2:=by
 refine @zx.heap unk0 _ _ _ _ _ _ h ?_;obtain⟨arr,fz,h1,_⟩:=h;exact k.1 _ _ _ _ h1 C C C
def Du(w:Ea)(R:zy)(p1 p2:Ed)(n1 n2 c1 c2:Nat):Box (w.alloc (Obj.cells #[.int .i64 R.number,.int .i64 R.version,.string R.tenant,.int .i64 R.session,.string R.action,.string R.path,.int .i64 R.day,.bool R.granted,.int .i64 R.user,.slice p1 n1 c1,.slice p2 n2 c2,.string R.does,.string R.at_,.bool R.deep] 86)) w.heap.size R p1 p2 n1 n2 c1 c2:=by
 refine⟨_,(0,0),heap_alloc_new w _,(by rw[Nat.zero_mul];exact Lh 14),λi _ h=>I,Nat.dvd_zero _,λj a=>?_⟩;rw[Lz];show(yX (R,Value.slice p1 n1 c1,Value.slice p2 n2 c2)).toArray[j]?=_;rw[AB]
def PC(h:n≠0):(((n:Nat):Int) != 0)=true/\(((n:Nat):Int)==0)=false:=by simp;omega
def zkY(w0:Ea)(want:Ei)(t:Ei)(es fs:List Ent)(R:zy)(b:Nat)(p1 p2:Ed)(n1 n2 c1 c2:Nat)(e:Ew)(w2:Ea):Prop:=
 (∃er:Nat,(((er:Nat):Int) != 0)=true/\(((er:Nat):Int)==0)=false/\ji (es.map (·.1)) R=er/\e = .returned (.tuple #[.pointer none,.int .i64 (er:Nat)])/\Rd w0 w2 t want es fs R (.slice p1 n1 c1) (.slice p2 n2 c2)/\Box w2 b R p1 p2 n1 n2 c1 c2) \/
 (∃(a:Addr) (u1 u2:Ei),ji (es.map (·.1)) R=0/\e = .returned (.tuple #[.pointer (some a),.int .i64 0])/\Rd w0 w2 t want es fs R (.slice p1 n1 c1) (.slice p2 n2 c2)/\Box w2 b R p1 p2 n1 n2 c1 c2/\qm (own w0) w2 (.pointer (some a)) (es++[(R,u1,u2)]))
def zie(m:kG u){t want:Ei}{es d:List Ent}{R:zy}(b:Nat){q1 q2:Ed}{c1 m1 m2 d1 d2:Nat}(few:es.length<=8)(H:Rd u w t want es d R (.slice p1 n1 c1) (.slice p2 n2 c2))(hb:Box w b R p1 p2 n1 n2 c1 c2)
  (h1:AtS w (.slice q1 m1 d1) R.up) (h2:AtS w (.slice q2 m2 d2) R.down):Calls prog 12 #[t,Zy R q1 q2 m1 m2 d1 d2] w (zkY u want t es d R b p1 p2 n1 n2 c1 c2):=by
 refine Calls.mono (AP.cS (R:=R) (v1:=.slice q1 m1 d1) (v2:=.slice q2 m2 d2) ⟨H.ok,few,H.st.tr,h1,h2,m.Jl (qh.zH H.st.g),λc hc=>Lj H.st.g.size hc⟩) λe w2 hp=>?_;obtain⟨k,k3,h,t2,rfl,g1,i⟩:=hp;have f:=H.Jl k (H.st.qI k k3 h);by_cases he:ji (es.map (·.1)) R=0
 .obtain⟨u1,u2,a⟩:=i he;obtain⟨⟨x,hd,r,rfl,_⟩,_⟩:=id a;exact .inr ⟨_,u1,u2,he,by rw[he];rfl,f,mW k3 hb,a⟩
 .rw[g1 he];obtain⟨l,j⟩:=PC he;exact .inl ⟨_,l,j,rfl,rfl,f,mW k3 hb⟩
def zis(w0:Ea)(er:Int)(t want:Ei)(es fs:List Ent)(R:zy)(b:Nat)(p1 p2:Ed)(n1 n2 c1 c2:Nat)(S:World->Prop)(e:Ew)(w2:Ea):Prop:=
 e = .returned (.int .i64 er)/\Rd w0 w2 t want es fs R (.slice p1 n1 c1) (.slice p2 n2 c2)/\Box w2 b R p1 p2 n1 n2 c1 c2/\S w2
def Hk{want:Ei}{R:zy}{b:Nat}{c1:Nat}(hb:Box w b R p1 p2 n1 n2 c1 c2)(a:∀p n m,want = .slice (some p) n m->p.block≠b)(k:m9 want w w2):Box w2 b R p1 p2 n1 n2 c1 c2:=
 @zx.heap unk0 _ _ _ _ _ _ hb (k _ (zx.lt hb) a)
def zb5{t want t2:Ei}{es c a:List Ent}{R:zy}(f:Nat)(b:Nat){c1:Nat}(few:es.length<=8)(d:∀p n m,want = .slice (some p) n m->p.block≠b)(H:Rd u w t want es c R (.slice p1 n1 c1) (.slice p2 n2 c2))
  (he:ji (es.map (·.1)) R=f) (hb:Box w b R p1 p2 n1 n2 c1 c2) (ht:qm (own u) w t2 a) :
  Calls prog 26 #[want,Zy R p1 p2 n1 n2 c1 c2] w (zis u f t want es c R b p1 p2 n1 n2 c1 c2 λw2=>qm (own u) w2 t2 a):=by
 have hl:c.length=es.length:=by have:=congrArg List.length H.st.same;simpa using this
 refine Calls.mono (AR.Me (R:=R) (v1:=.slice p1 n1 c1) (v2:=.slice p2 n2 c2) (es:=c) ⟨H.ok,I,H.st.rows,H.st.lists,H.up,H.down⟩) λe w2 hp=>?_;obtain⟨k,kw,g,rfl⟩:=hp;rw[H.st.same,he];exact⟨rfl,H.Jl k (H.st.want k kw g),Hk hb d kw,XX H.st.rows k kw ht⟩
def zdi{c w : World}{t want t2 : Value}{es e a : List Ent}{R : zy}(b : Nat){p1 p2 : Option Addr}{n1 n2 c1 c2 : Nat}(few : es.length <= 8)(d : ∀p n m, want = .slice (some p) n m -> p.block ≠ b)(H : Rd c w t want es e R (.slice p1 n1 c1) (.slice p2 n2 c2))
    (he : ji (es.map (·.1)) R = 0) (hb : Box w b R p1 p2 n1 n2 c1 c2) (ht : qm (own c) w t2 a) :
    Calls prog 26 #[want, Zy R p1 p2 n1 n2 c1 c2] w (zis c 0 t want es e R b p1 p2 n1 n2 c1 c2 λw2 => qm (own c) w2 t2 a) := zb5 0 b few d H he hb ht
def Sk{t want:Ei}{es b:List Ent}{R:zy}(H:Rd u w t want es b R v1 v2):∀p n m,want = .slice (some p) n m->p.block≠w.heap.size:=by
 intro p n m e hp;by_cases a:b=[]
 .rw[H.st.rows.1 a]at e;cases e
 .obtain⟨y,d,c⟩:=H.st.rows.2 a;rw[d]at e;cases e;have:=zx.lt c;have hp:y.1=w.heap.size:=hp;omega
def rj{f:List Ent}(b:ZD w 86 v f)(h:Je v w w2):qh w w2:=by
 refine⟨λc arr t fz hc _ _ _ i=>h.Jl c (LO.1 hc).1 λp n m e hp=>?_,h.size,h.tape,h.os,h.output⟩;by_cases d:f=[]
 .rw[b.1 d]at e;cases e
 .obtain⟨y,k,g,j,a,_⟩:=b.2 d;rw[k]at e;cases e;have hp:y.1=c:=hp;rw[hp,hc]at a;simp only[Ag,Obj.cells.injEq]at a;exact i a.2.1
def St.push{t want t2:Ei}{es a:List Ent}{R:zy}{u1 u2:Ei}{q:Addr}(H:Rd u w t want es a R v1 v2)(he:ji (es.map (·.1)) R=0)(b:qm (own u) w t2 (es++[(R,u1,u2)]))
  (hr:ZD w2 86 (.slice (some q) (a.length+1) c) (a++[(R,v1,v2)])) (hq:w.heap.size<=q.block\/∃p n m,want = .slice (some p) n m/\p.block=q.block) (h:Je want w w2) :
  St (own u) u w2 t2 (.slice (some q) (a.length+1) c) (es++[(R,u1,u2)]) (a++[(R,v1,v2)]):=by
 have k:=rj H.st.rows h;obtain⟨d,_,hd,_⟩:=uf H.ok he
 refine⟨⟨λc hc=>by rw[h.Jl c (LK hc H.st.g.size) (λp n m e hp=>by have:=H.st.old _ (H.st.low p n m e);omega),H.st.g.old c hc],Lj H.st.g.size k.size,k.tape.trans H.st.g.tape,k.os.trans H.st.g.os,k.output.trans H.st.g.output⟩,H.st.old,
  XX H.st.rows k h.Jl b,hr,λp n m e=>?_,λe hm=>?_,?_,λe hm=>?_,by rw[Az];exact H.st.hist.snoc (by rw[H.st.same];exact he)⟩
 .cases e;rcases hq with hq|⟨p,n,m,e,hp⟩
  .exact Lj H.st.g.size hq
  .rw[<- hp];exact H.st.low p n m e
 .rcases LJ.1 hm with hm|hm
  .exact k.lists H.st.lists e hm
  .rw[Lu]at hm;subst hm;exact⟨k.atS H.up,k.atS H.down⟩
 .rw[Az,Az,H.st.same];rfl
 .rcases LJ.1 hm with hm|hm
  .exact H.st.acc e hm
  .rw[Lu]at hm;subst hm;exact⟨H.ok,d,hd,H.ver⟩
end
section
open TR
open KT(zB)
def under29:Tryz.prog.underlying 29=some (.array 32 5):=U
def under5:Tryz.prog.underlying 5=some (.int .u8):=U
def zga(w:Ea):(sizeOf 5).run prog w = .ok 1 w:=by
 obtain⟨i,hi⟩:∃i,Tryz.prog.info? 5=some i:=LM.1 U;have b:(Tryz.prog.info? 5).map (·.size)=some 1:=U;rw[hi]at b;have b:i.size=1:=Aa b;simp[sizeOf,typeInfo,hi,b]
def WG(b:∀i,f i<256):zB 32 f=((List.range 32).map λi=>UInt8.ofNat (f i)).map Extern.Stop.cell:=by
 unfold zB;rw[LZ];refine Ab λi _=>?_;show Value.int .u8 (f i:Nat) = .int .u8 ((UInt8.ofNat (f i)).toNat:Nat);rw[toNat_ofNat',AA (b i)]
def zjv(b:∀i,f i<256)(w:Ea)(d:Nat):(Op.equalIn (d+2) 29 (.agg (zB 32 f).toArray) (.agg (zB 32 f).toArray)).run prog w = .ok true w:=by
 rw[WG b,run_equalIn_bytes w d 29 5 32 under29 under5 zga _ _ Oc Oc];simp
def zeo{cs:Ec}{c:List zy}(b:cs=zB 32 (ja c)):∀w,(Op.equalIn 10000 29 (.agg cs.toArray) (.agg cs.toArray)).run prog w = .ok true w:=λw=>by
 rw[b];exact zjv (λi=>AP.Yw c i) w 9998
def Qz{cs:Ec}(b:cs=zB 32 f):(Tryz.prog.info? 29).map (·.size)=some cs.length:=by
 subst b;have k:(Tryz.prog.info? 29).map (·.size)=some 32:=U;rw[k,KT.qT]
def zM(w:Ea):Grown w w.drew:=⟨λ_ _=>rfl,Lh _,rfl,rfl,rfl⟩
section
variable{B:Em}{w0 w:Ea}{want:Ei}{a:Addr}{es fs:List Ent}{cs:Ec}
def IV{t:Ei}(H:St B w0 w t want es fs):fs.length=es.length:=by have:=congrArg List.length H.same;simpa using this
end
end
section
open TR
namespace RD
def In(w:Ea)(p:Ed)(L:Eb):Prop:=(∀b∈L,b<256)/\(L≠[]->∃b o,p=some ⟨b,o,none⟩/\∀i x,L[i]?=some x->w.cell? ⟨b,o+i,none⟩=some (.int .u8 (x:Nat)))
def num:Nat->Nat->List Nat->Option (Nat×Nat)
 | _,_,[]=>none
 | v,k,b::l=>if(k=0/\b=128)\/144115188075855871<v then none else if b<128 then some (v*128+b % 128,k+1) else num (v*128+b % 128) (k+1) l
def Xo:∀(l:Eb) (v k:Nat) {r:Nat×Nat},num v k l=some r->k<r.2/\r.2<=k+l.length
 | [],_,_,_,h=>by cases h
 | b::l,v,k,r,h=>by
  unfold num at h;split at h
  .cases h
  .split at h
   .cases h;exact⟨lt_succ_self k,by show k+1<=k+(l.length+1);omega⟩
   .have:=Xo l _ _ h;exact⟨I,by show r.2<=k+(l.length+1);omega⟩
def zdx(v b:Nat):(v*128) ||| (b % 128)=v*128+b % 128:=by
 have h:b % 128<2 ^ 7:=Af _ C;have:=shiftLeft_add_eq_or_of_lt h v;rw[Nat.shiftLeft_eq]at this;exact this.symm
def MU{v x:Nat}{b f bv g:Bool}(e:((k:Int)==0)=b)(a:((x:Int)==128)=f)(c:decide ((144115188075855871:Int)<(v:Int))=bv)(d:decide ((x:Int)<128)=g) :
  num v k (x::l)=if(b&&f)||bv then none else if g then some (v*128+x % 128,k+1) else num (v*128+x % 128) (k+1) l:=by
 have m:(k=0↔b=true):=by rw[<- e];simp
 have j:(x=128↔f=true):=by rw[<- a,Ll];omega
 have i:(144115188075855871<v↔bv=true):=by rw[<- c,Lk];omega
 have h:(x<128↔g=true):=by rw[<- d,Lk];omega
 rw[num.eq_2];simp only[m,j,i,h,AK,Le]
def wraps_u8(n:Int)(b:0<=n)(a:n<2 ^ 8):IntKind.u8.wrap n=n:=by
 have:IntKind.u8.wrap n=n % 256:=by simp[IntKind.wrap,IntKind.bits,IntKind.signed]
 rw[this];omega
def zby{v x:Nat}(hv:v<=144115188075855871)(hx:x<256):bits .or .u64 (IntKind.u64.wrap ((v:Int)*128)) (IntKind.u64.wrap (bits .and .u8 (x:Int) 127))=((v*128+x % 128:Nat):Int):=by
 have h1:bits .and .u8 (x:Int) 127=((x % 128:Nat):Int):=by
  have:=bits_mask .u8 8 C wraps_u8 7 C (x:Int) I I;have b:((2:Int) ^ 7-1)=127:=by decide
  have a:((2:Int) ^ 7)=128:=by decide
  rw[b,a]at this;rw[this];omega
 rw[h1,u64_in _ I,u64_in _ I];have:=bits_or_u64_nat (v*128) (x % 128) I I;rw[zdx]at this;rw[<- this];rfl
end RD
end
noncomputable section
namespace KQ
def pk(b:Ek):Nat->Nat->Nat
 | 0,j=>b j
 | k+1,j=>(pk b k (j+1)*256 % W) ||| b j
def pj(b:Ek)(j:Nat):Nat:=pk b (7-j % 8) j
def sj(b:Ek)(j:Nat):Nat:=pj b (j+1)*256 % W
def md(a b:Ek)(i:Nat):Nat:=if i<17 then a i ^^^ pj b (8*i) else a i
def S0(h:j % 8=7):pj b j=b j:=by unfold pj;rw[h];rfl
def SZ(h:¬j % 8=7):pj b j=sj b j ||| b j:=by
 unfold pj sj;have e:7-j % 8=(7-(j+1) % 8)+1:=by omega
 rw[e];rfl
section
variable{a b:Ek}(ha:∀i,a i<W)(hb:∀j,b j<256)
include hb
theorem zfO:∀k j,pk b k j<W
 | 0,j=>Nat.lt_trans (hb j) C
 | k+1,j=>KS.Ct (Af _ C) (Nat.lt_trans (hb j) C)
theorem zb8(j:Nat):pj b j<W:=zfO hb _ j
include ha
theorem CE(i:Nat):md a b i<W:=by
 unfold md;split
 .exact KP.kx (ha i) (zb8 hb _)
 .exact ha i
end
def jQ(a b:Ek)(u:El)(id:Nat):Value:=
 if id<2000 then .int .u64 (a (id-1000):Nat) else if id<2200 then .int .u8 (b (id-2000):Nat) else if id<2400 then .int .u64 (b (id-2200):Nat) else if id<2600 then .int .u64 (sj b (id-2400):Nat) else if id<2800 then .int .u64 (pj b (id-2600):Nat)
 else if id<3000 then .int .u64 (md a b (id-2800):Nat) else if id<4000 then .int .u64 (KP.perm (md a b) (id-3000):Nat) else u (id-4000)
section
variable[Unk]{a b:Ek}{u:El}
def ac{id:Nat}(h1:100<=id)(h2:id<6000)(e:jQ a b u id=v)(c:yc v=true):WF (KP.BN 6000 (jQ a b u)) (.sym id)/\J (KP.BN 6000 (jQ a b u)) (.sym id)=v:=⟨KP.jd h1 h2,KP.kp h1 h2 e c⟩
def DF(hi:i<25):WF (KP.BN 6000 (jQ a b u)) (.sym (1000+i))/\J (KP.BN 6000 (jQ a b u)) (.sym (1000+i)) = .int .u64 (a i:Nat):=
 ac I I (by unfold jQ;rw[Y I,LA]) rfl
def zcC(c:j<136):WF (KP.BN 6000 (jQ a b u)) (.sym (2000+j))/\J (KP.BN 6000 (jQ a b u)) (.sym (2000+j)) = .int .u8 (b j:Nat):=
 ac I I (by unfold jQ;rw[O I,Y I,LA]) rfl
def zcB(c:j<136):WF (KP.BN 6000 (jQ a b u)) (.sym (2200+j))/\J (KP.BN 6000 (jQ a b u)) (.sym (2200+j)) = .int .u64 (b j:Nat):=
 ac I I (by unfold jQ;rw[O I,O I,Y I,LA]) rfl
def zcA(c:j<136):WF (KP.BN 6000 (jQ a b u)) (.sym (2400+j))/\J (KP.BN 6000 (jQ a b u)) (.sym (2400+j)) = .int .u64 (sj b j:Nat):=
 ac I I (by unfold jQ;rw[O I,O I,O I,Y I,LA]) rfl
def RF(c:j<136):WF (KP.BN 6000 (jQ a b u)) (.sym (2600+j))/\J (KP.BN 6000 (jQ a b u)) (.sym (2600+j)) = .int .u64 (pj b j:Nat):=
 ac I I (by unfold jQ;rw[O I,O I,O I,O I,Y I,LA]) rfl
def zcz(hi:i<25):WF (KP.BN 6000 (jQ a b u)) (.sym (2800+i))/\J (KP.BN 6000 (jQ a b u)) (.sym (2800+i)) = .int .u64 (md a b i:Nat):=
 ac I I (by unfold jQ;rw[O I,O I,O I,O I,O I,Y I,LA]) rfl
def zin(hi:i<25):WF (KP.BN 6000 (jQ a b u)) (.sym (3000+i))/\J (KP.BN 6000 (jQ a b u)) (.sym (3000+i)) = .int .u64 (KP.perm (md a b) i:Nat):=
 ac I I (by unfold jQ;rw[O I,O I,O I,O I,O I,O I,Y I,LA]) rfl
def zim(c:∀i,i<2->yc (u i)=true)(hi:i<2):WF (KP.BN 6000 (jQ a b u)) (.sym (4000+i))/\J (KP.BN 6000 (jQ a b u)) (.sym (4000+i))=u i:=
 ac I I (by unfold jQ;rw[O I,O I,O I,O I,O I,O I,O I,LA]) (c i hi)
variable(ha:∀i,a i<W)(hb:∀j,b j<256)
include ha hb
theorem zaf:∀op x y r,gB op x y=some r->Qg P (KP.BN 6000 (jQ a b u)) op x y r:=by
 intro op x y v h;have blt:∀j,b j<W:=λj=>Nat.lt_trans (hb j) C;cases op<;>first|(cases h;done)|skip
 case or=>
  replace h:(Z (KP.qZ y) none λi=>ifB (KA.is 2200 136 i) (frc (Nat.sub i 2200) λj=>Z (KP.qZ x) (ifB (L (KA.u64z x 0) (Nat.beq (Nat.mod j 8) 7)) (some (KA.s 2600 j)) none) λm=>ifB (L (kV (Nat.beq (Nat.mod j 8) 7)) (Nat.beq m (Nat.add 2400 j))) (some (KA.s 2600 j)) none) none)=some v:=h
  cases c:KP.qZ y with
  | none=>rw[c]at h;cases h
  | some i=>
   rw[c,ze]at h;replace h:=zh h;obtain⟨h1,h⟩:=h;obtain⟨j,rfl,f⟩:=KS.fK h1;have c:=KP.jf c;subst c;replace h:=(qg _ _).symm.trans h;rw[show Nat.sub (2200+j) 2200=j from LA ..]at h;obtain⟨g1,d⟩:=zcB (a:=a) (b:=b) (u:=u) f;obtain⟨l,g⟩:=RF (a:=a) (b:=b) (u:=u) f
   cases hx:KP.qZ x with
   | none=>
    rw[hx,zn]at h;replace h:=zh h;obtain⟨h2,h⟩:=h;rw[zl,Le]at h2;have hm:j % 8=7:=eq_of_beq_eq_true h2.2;obtain rfl:=KS.u64z_eq h2.1;cases h;refine j8 (tabs:=[]) trivial g1 l (show J _ (.int .u64 (.ofNat 0)) = .int .u64 ((0:Nat):Int) from rfl) d (KP.fP C (blt j)) ?_;refine Eq.trans ?_ g.symm;rw[S0 hm,zero_or]
    rfl
   | some m=>
    rw[hx,ze]at h;replace h:=zh h;obtain⟨h2,h⟩:=h;rw[zl,Le]at h2;have n:m=2400+j:=eq_of_beq_eq_true h2.2
    have hm:¬j % 8=7:=λe=>by
     have:=h2.1;rw[qW,show Nat.beq (Nat.mod j 8) 7=true from by rw[show Nat.mod j 8=7 from e];rfl]at this;cases this
    have hx:=KP.jf hx;subst hx;subst n;cases h;obtain⟨t,p⟩:=zcA (a:=a) (b:=b) (u:=u) f;refine j8 (tabs:=[]) t g1 l p d (KP.fP (Af _ C) (blt j)) ?_;refine Eq.trans ?_ g.symm;rw[SZ hm];rfl
 case shl=>
  replace h:(Z (KP.qZ x) none λi=>ifB (L (KA.is 2601 135 i) (KA.u64z y 8)) (some (KA.s 2400 (Nat.sub i 2601))) none)=some v:=h
  cases hx:KP.qZ x with
  | none=>rw[hx]at h;cases h
  | some i=>
   rw[hx,ze]at h;replace h:=zh h;obtain⟨h1,h⟩:=h;rw[zl,Le]at h1;obtain⟨j,rfl,f⟩:=KS.fK h1.1;have hx:=KP.jf hx;subst hx;obtain rfl:=KS.u64z_eq h1.2;rw[show Nat.sub (2601+j) 2601=j from LA ..]at h;cases h;obtain⟨g1,d⟩:=RF (a:=a) (b:=b) (u:=u) (j:=j+1) I;rw[show 2600+(j+1)=2601+j by omega]at g1 d;obtain⟨l,g⟩:=zcA (a:=a) (b:=b) (u:=u) (j:=j) I;refine j8 (tabs:=[]) g1 trivial l d (show J _ (.int .u64 (.ofNat 8)) = .int .u64 ((8:Nat):Int) from rfl) (KP.oC (x:=pj b (j+1)) (k:=8) C) ?_;exact Eq.trans rfl g.symm
 case xor=>
  replace h:(Z (KP.qZ x) none λi=>Z (KP.qZ y) none λj=>ifB (KA.is 1000 17 i) (frc (Nat.sub i 1000) λk=>ifB (Nat.beq j (Nat.add 2600 (Nat.mul 8 k))) (some (KA.s 2800 k)) none) none)=some v:=h
  cases hx:KP.qZ x with
  | none=>rw[hx]at h;cases h
  | some i=>
   rw[hx,ze]at h
   cases c:KP.qZ y with
   | none=>rw[c]at h;cases h
   | some j=>
    rw[c,ze]at h;replace h:=zh h;obtain⟨h1,h⟩:=h;obtain⟨k,rfl,w⟩:=KS.fK h1;replace h:=(qg _ _).symm.trans h;rw[show Nat.sub (1000+k) 1000=k from LA ..]at h;replace h:=zh h;obtain⟨h2,h⟩:=h;have f:j=2600+8*k:=eq_of_beq_eq_true h2;have hx:=KP.jf hx;have c:=KP.jf c;subst hx;subst c;subst f;cases h;obtain⟨g1,d⟩:=DF (a:=a) (b:=b) (u:=u) (i:=k) I;obtain⟨l,g⟩:=RF (a:=a) (b:=b) (u:=u) (j:=8*k) I;obtain⟨t,p⟩:=zcz (a:=a) (b:=b) (u:=u) (i:=k) I;refine j8 (tabs:=[]) g1 l t d g (KP.dy (ha k) (zb8 hb _)) ?_;refine Eq.trans ?_ p.symm;unfold md;rw[Y w];rfl
end
end KQ
end
namespace KQ
open KP(tabs)
def use_memo[Unk]{val:El}{f:Eu}{args:List G}{r:G}{E:Env}(hE:E.P=P)(hT:E.tabs=T)(h:zP T=true)(hm:yW P T (KP.BN 6000 val) f args (6000+m) rin rout r n)
  {w:Ea}{pl:Nat->Nat×Nat×Nat} (ht:ql P T w) (h1:ZS (JM rin)=true) (h2:ZS (JM rout)=true) (hin:∀p∈rin,6000<=p.1/\p.1<6000+m) (hout:∀p∈rout,6000<=p.1/\p.1<6000+m)
  (hblk:∀p∈rin,zO P (qG (KP.Zm 6000 val) 6000 m pl) p.2 (pl p.1) w) (hinj:∀p∈rin,∀q∈rin,(pl p.1).1=(pl q.1).1->p.1=q.1) (hsep:∀p∈rin,∀t∈T,(Unk.place t.1).1≠(pl p.1).1)
  (hargs:WFs (qG (KP.Zm 6000 val) 6000 m pl) args) :
  Calls P f (K (qG (KP.Zm 6000 val) 6000 m pl) args).toArray w λe w2=>∃γ,e = .returned (J γ r)/\(qG (KP.Zm 6000 val) 6000 m pl).le γ/\(∀p∈rout,zO P γ p.2 (pl p.1) w2) /\
   (∀k,k<w.heap.size->(∀p∈rin,(pl p.1).1≠k)->w2.heap[k]?=w.heap[k]?)/\w.heap.size<=w2.heap.size/\w2.tape=w.tape/\w2.os=w.os/\w2.output=w.output:=by
 subst hE;subst hT;have hle:(KP.BN 6000 val).le (qG (KP.Zm 6000 val) 6000 m pl):=kl C KP.ju;have hR:Rel E.P (qG (KP.Zm 6000 val) 6000 m pl) (jD E (6000+m) rin) w:=Uj C KP.ju h ht hin hblk hinj hsep
 have hlow:∀p∈E.tabs,(jD E (6000+m) rin).blk.get p.1=some p.2:=λp hp=>by
  obtain⟨c1,_,c3⟩:=qu h p hp
  cases i:(jD E (6000+m) rin).blk.get p.1 with
  | none=>
   have:∀l:List (Nat×X),(∀q∈l,6000<=q.1)->(qf l (jj E.tabs)).get p.1=some p.2:=by
    intro l
    induction l with
    | nil=>intro _;exact c3
    | cons q l Q=>
     intro hq;show((qf l (jj E.tabs)).set q.1 q.2).get p.1=_;rw[M.zN,O (by have:=hq q LG;omega)];exact Q λH j=>hq H (LP _ j)
   rw[<- i]
   exact this rin λq hq=>(hin q hq).1
  | some b=>
   rcases kB rin _ _ _ i with d|⟨_,d⟩
   .have:=(hin _ d).1;exact Ld this (by show ¬6000<=p.1;omega)
   .rw[c3]at d;exact d.symm
 refine(hm _ _ w hle hR (λg i=>by rw[Zz I];exact Y i) (λp hp=>⟨(qu h p hp).1,hlow p hp⟩) rfl (yM h1 _) hargs).mono λe w2 hx=>?_;obtain⟨γ,rfl,_,x,hE⟩:=hx;refine⟨γ,rfl,hE.le hR.bnd,λp hp=>?_,λc hc v=>hE.frame c hc λhr=>?_,hE.size,hE.tape,hE.os,hE.output⟩
 .refine x.blk p.1 _ _ (yM h2 _ p hp) ((hE.old p.1 (hout p hp).2).trans ?_);exact qH (hout p hp).1 (hout p hp).2
 .obtain⟨id,c',y,g1,g2,z,g4⟩:=hr;rcases kB rin _ _ _ g2 with d|⟨_,d⟩
  .have:=v _ d;rw[qH (hin _ d).1 (hin _ d).2]at z;cases z;exact this g4
  .have:=(qu h _ (kK _ _ _ d)).1;omega
def qE(b:Ek):List Value:=(List.range 136).map λj=>.int .u8 (b j:Nat)
def jR(bad:Em)(w w2:Ea):Prop:=(∀k,k<w.heap.size->¬bad k->w2.heap[k]?=w.heap[k]?)/\w.heap.size<=w2.heap.size/\w2.tape=w.tape/\w2.os=w.os/\w2.output=w.output
section
variable[Unk]{a b:Ek}{u:El}{γ:Inj}
def Wp{g:Nat->G}{v:El}(hle:(KP.BN 6000 (jQ a b u)).le γ)(h:∀i,i<n->WF (KP.BN 6000 (jQ a b u)) (g i)/\J (KP.BN 6000 (jQ a b u)) (g i)=v i):WFs γ ((List.range n).map g)/\K γ ((List.range n).map g)=(List.range n).map v:=by
 have key:∀i,i<n->WF γ (g i)/\J γ (g i)=v i:=λi hi=>by
  obtain⟨d,c⟩:=WF.mono hle _ (h i hi).1;exact⟨d,c.trans (h i hi).2⟩
 constructor
 .rw[qb];intro x hx;obtain⟨i,hi,rfl⟩:=Lv.1 hx;exact(key i (Lr.1 hi)).1
 .rw[zC,LZ];exact Ab λi hi=>(key i (Lr.1 hi)).2
def tL(hle:(KP.BN 6000 (jQ a b u)).le γ):WFs γ ins/\K γ ins=qv a:=Wp hle λ_ hi=>DF hi
def yw(hle:(KP.BN 6000 (jQ a b u)).le γ):WFs γ outs/\K γ outs=qv (KP.perm (md a b)):=Wp hle λ_ hi=>zin hi
def mh(hle:(KP.BN 6000 (jQ a b u)).le γ):WFs γ oh/\K γ oh=qv (md a b):=Wp hle λi hi=>by
 show WF _ (ifB (Nat.blt i 17) (.sym (2800+i)) (.sym (1000+i)))/\J _ (ifB (Nat.blt i 17) (.sym (2800+i)) (.sym (1000+i)))=_;rw[zo];split
 .exact zcz hi
 .rename_i h;have:¬i<17:=λe=>h (Nat.blt_eq.mpr e);refine⟨(DF hi).1,(DF hi).2.trans ?_⟩;unfold md;rw[O this]
def WJ(hle:(KP.BN 6000 (jQ a b u)).le γ):WFs γ ZA/\K γ ZA=qE b:=Wp hle λ_ c=>zcC c
def rA(c:∀i,i<2->yc (u i)=true)(hle:(KP.BN 6000 (jQ a b u)).le γ):WFs γ two/\K γ two=[u 0,u 1]:=Wp (n:=2) (g:=λi=>.sym (4000+i)) (v:=u) hle λ_ hi=>zim c hi
def Y5{l1 l2:List G}{v1 v2:Ec}(h1:WFs γ l1/\K γ l1=v1)(h2:WFs γ l2/\K γ l2=v2):WFs γ (l1++l2)/\K γ (l1++l2)=v1++v2:=by
 obtain⟨o1,o2⟩:=h1;obtain⟨p1,p2⟩:=h2;constructor
 .rw[qb]at o1 p1 ⊢;intro v hv;rcases LJ.1 hv with h|h
  .exact o1 v h
  .exact p1 v h
 .rw[zC]at o2 p2 ⊢;rw[Az,o2,p2]
end
def ue{a:Ek}{u:El}{row:List G->X}(ha:∀i,a i<W)(hb:∀j,b j<256)(hp:@zu unkK prog KP.tabs (@KP.BN unkK 6000 (jQ a b u)) (sC row)):@zJ unkK (EA row) (@KP.BN unkK 6000 (jQ a b u)):=by
 letI:=unkK;intro f c;have c:f∈(.binF gB::sC row::(List.range 136).map KA.P2:List Fact):=c;rcases Lf.1 c with rfl|c
 .exact zaf ha hb
 rcases Lf.1 c with rfl|c
 .exact hp
 .obtain⟨j,d,rfl⟩:=Lv.1 c;have d:=Lr.1 d;obtain⟨g1,h⟩:=zcC (a:=a) (b:=b) (u:=u) (j:=j) d;obtain⟨g,e⟩:=zcB (a:=a) (b:=b) (u:=u) (j:=j) d;exact Xx g1 g h e (ee I (by have:=hb j;omega))
def zgL[Unk]{row:List G->X}:Fit (EA row):=QA KP.yQ KP.JL (λp hp=>by
 have hp:p∈[((228:Eu),Spec.fact)]:=hp;rw[Lu]at hp;subst hp
 trivial)
def S5{a:Ek}{u:El}(ha:∀i,a i<W)(hb:∀j,b j<256)(f:∀i,i<2->yc (u i)=true):@zu unkK prog KP.tabs (@KP.BN unkK 6000 (jQ a b u)) (sC I8):=by
 letI:=unkK;refine KS.Jq C jL rfl rfl rfl ?_;have hl:∀l:List G,l.length=25->(l++(ZA++two)).length=163:=λl h=>by simp[h,ZA,two]
 have lm:oh.length=25:=by simp[oh]
 have lo:outs.length=25:=by simp[outs]
 have tail:∀ {γ:Inj},(KP.BN 6000 (jQ a b u)).le γ->WFs γ (ZA++two)/\K γ (ZA++two)=qE b++[u 0,u 1]:=λh=>Y5 (WJ h) (rA f h);refine Ut (l:=oh++(ZA++two)) (l':=outs++(ZA++two)) (hl _ lm) (hl _ lo) C C trivial (Y5 (yw λ_ _ h=>h) (tail λ_ _ h=>h)).1 (λβ' h=>h.1) λβ' w x hle k g d hx c e=>?_;rw[(Y5 (mh hle) (tail hle)).2]at c
 have p:(K β' [.ptr 6000 0]).toArray = #[.pointer (some ⟨x.1,x.2.1,none⟩)]:=by
  simp[K,J,Inj.addr,Inj.blk,Inj.sh,hx]
 rw[p,(Y5 (yw hle) (tail hle)).2];let rs:Nat->Value:=λi=>if i<236 then .int .u8 (b (i-100):Nat) else u (i-236)
 have n:qE b++[u 0,u 1]=Uf rs:=by
  refine List.ext_getElem (by simp[qE,Uf]) λi h1 h2=>?_;have m:i<138:=by simpa[qE] using h1
  rcases LD i 136 with h|h
  .rw[List.getElem_append_left (by simpa[qE] using h)];simp only[qE,Uf,List.getElem_map,List.getElem_range];show _=(if 100+i<236 then Value.int .u8 (b (100+i-100):Nat) else u (100+i-236));rw[Y I,LA]
  .rw[List.getElem_append_right (by simpa[qE] using h)];simp only[Uf,List.getElem_map,List.getElem_range];show _=(if 100+i<236 then Value.int .u8 (b (100+i-100):Nat) else u (100+i-236));rw[O I];have:i=136\/i=137:=by omega
   rcases this with rfl|rfl<;>simp[qE]
 rw[n]at c ⊢;refine FK (rs:=rs) (λi hi=>?_) (CE ha hb) c d g;show yc (if 100+i<236 then _ else _)=true;split
 .rfl
 .exact f _ I
def S4{a:Ek}{u:El}(ha:∀i,a i<W)(hb:∀j,b j<256):@zu unkK prog KP.tabs (@KP.BN unkK 6000 (jQ a b u)) (sC I2):=by
 letI:=unkK;refine KS.Jq C jL rfl rfl rfl ?_;have lm:oh.length=25:=by simp[oh]
 have lo:outs.length=25:=by simp[outs]
 refine Ut (l:=oh) (l':=outs) lm lo C C trivial (yw λ_ _ h=>h).1 (λβ' h=>h.1) λβ' w x hle g f d hx c e=>?_;rw[(mh hle).2]at c
 have k:(K β' [.ptr 6000 0]).toArray = #[.pointer (some ⟨x.1,x.2.1,none⟩)]:=by
  simp[K,J,Inj.addr,Inj.blk,Inj.sh,hx]
 rw[k,(yw hle).2];exact KP.sB (CE ha hb) c d f
def ur{row:List G->X}{args:List G}{nx:Nat}(h:yT (EA row) 1000000 189 6000 args nx rin rout (.tuple []) n=true)(c:@zJ unkK (EA row) g):@yW unkK prog KP.tabs g 189 args nx rin rout (.tuple []) n:=by
 letI:=unkK;unfold yT at h;simp only[zl,Le]at h;exact Vn (E:=EA row) zgL c jL h.2.2.2
def zbS{a:Ek}{u:El}(ha:∀i,a i<W)(hb:∀j,b j<256)(g:∀i,i<2->yc (u i)=true)(d:zx prog w x 303 (qv a++(qE b++[u 0,u 1])))(c:∀p∈KP.tabs,p.1≠x.1)(f:@ql unkK prog KP.tabs w) :
  Calls prog 189 #[.pointer (some ⟨x.1,x.2.1,none⟩),.slice (some ⟨x.1,x.2.1+25,none⟩) 136 136] w λe w2=>e = .returned (.tuple #[])/\(∃n:Nat->Nat,(∀i,n i<W)/\zx prog w2 x 303 (qv n++(qE b++[u 0,u 1])))/\jR (· = x.1) w w2:=by
 letI:=unkK;have hm:=ur kq2 (ue ha hb (S5 ha hb g));have hle:(KP.BN 6000 (jQ a b u)).le (qG (KP.Zm 6000 (jQ a b u)) 6000 1 λ_=>x):=kl C KP.ju;have self:qG (KP.Zm 6000 (jQ a b u)) 6000 1 (λ_=>x) 6000=some x:=qH C C;have both:∀ {γ:Inj}{l:List G}{v:Ec},(KP.BN 6000 (jQ a b u)).le γ->WFs γ l/\K γ l=v->WFs γ (l++(ZA++two))/\K γ (l++(ZA++two))=v++(qE b++[u 0,u 1]):=λh k=>Y5 k (Y5 (WJ h) (rA g h));have hl:∀l:List G,l.length=25->(l++(ZA++two)).length=163:=λl h=>by simp[h,ZA,two]
 have P:(K (qG (KP.Zm 6000 (jQ a b u)) 6000 1 λ_=>x) [.ptr 6000 0,.slice 6000 25 136 136 true]).toArray = #[.pointer (some ⟨x.1,x.2.1,none⟩),.slice (some ⟨x.1,x.2.1+25,none⟩) 136 136]:=by
  simp[K,J,Inj.addr,Inj.blk,Inj.sh,self]
 have:=use_memo (E:=EA I8) (m:=1) rfl rfl jL hm f rfl rfl (λp hp=>by rw[Lu]at hp;subst hp;exact⟨C,C⟩) (λp hp=>by rw[Lu]at hp;subst hp;exact⟨C,C⟩) (pl:=λ_=>x) (λp hp=>by
  rw[Lu]at hp;subst hp;obtain⟨o1,o2⟩:=both hle (tL hle)
  exact zx.blk (hl _ (by simp[ins])) o1 (by rw[o2];exact d)) (λp hp q hq _=>by rw[Lu]at hp hq;rw[hp,hq]) (λp _ t f=>c t f) ⟨by show(qG _ _ _ _ 6000).isSome=true;rw[self];rfl,by simp[WF,self],trivial⟩
 rw[P]at this;refine this.mono λe w2 hx=>?_;obtain⟨γ,rfl,g1,H,z,y⟩:=hx;refine⟨rfl,⟨KP.perm (md a b),KP.BP (CE ha hb) 24,?_⟩,λk r hn=>z k r λp _ e=>hn e.symm,y⟩;have:=zx.of (hl _ (by simp[outs])) (H _ LG);rw[(both (hle.trans g1) (yw (hle.trans g1))).2]at this;exact this
def zbR{a:Ek}(ha:∀i,a i<W)(hb:∀j,b j<256){y:Ej}(g:zx prog w x 300 (qv a))(h:zx prog w y 301 (qE b))(d:x.1≠y.1)(v:∀p∈KP.tabs,p.1≠x.1)(n:∀p∈KP.tabs,p.1≠y.1)(f:@ql unkK prog KP.tabs w) :
  Calls prog 189 #[.pointer (some ⟨x.1,x.2.1,none⟩),.slice (some ⟨y.1,y.2.1,none⟩) 136 136] w λe w2=>e = .returned (.tuple #[])/\(∃z:Nat->Nat,(∀i,z i<W)/\zx prog w2 x 300 (qv z))/\jR (λk=>k=x.1\/k=y.1) w w2:=by
 letI:=unkK;let u:Nat->Value:=λ_=>.int .u8 0;let pl:Nat->Nat×Nat×Nat:=λid=>if id=6000 then x else y
 have hm:=ur kq3 (ue ha hb (S4 (u:=u) ha hb));have hle:(KP.BN 6000 (jQ a b u)).le (qG (KP.Zm 6000 (jQ a b u)) 6000 2 pl):=kl C KP.ju;have s0:qG (KP.Zm 6000 (jQ a b u)) 6000 2 pl 6000=some x:=qH C C;have s1:qG (KP.Zm 6000 (jQ a b u)) 6000 2 pl 6001=some y:=qH C C
 have ea:(K (qG (KP.Zm 6000 (jQ a b u)) 6000 2 pl) [.ptr 6000 0,.slice 6001 0 136 136 true]).toArray = #[.pointer (some ⟨x.1,x.2.1,none⟩),.slice (some ⟨y.1,y.2.1,none⟩) 136 136]:=by
  simp[K,J,Inj.addr,Inj.blk,Inj.sh,s0,s1]
 have c:∀ {P:Nat×X->Prop}{p q:Nat×X},P p->P q->∀r∈[p,q],P r:=λh1 h2 r l=>by
  rcases Lf.1 l with rfl|l
  .exact h1
  .rw[Lu]at l;subst l;exact h2
 have:=use_memo (E:=EA I2) (m:=2) rfl rfl jL hm f rfl rfl (c ⟨C,C⟩ ⟨C,C⟩) (c ⟨C,C⟩ ⟨C,C⟩) (pl:=pl) (c (by
  obtain⟨o1,o2⟩:=tL hle
  exact zx.blk (by simp[ins]) o1 (by rw[o2];exact g)) (by
  obtain⟨o1,o2⟩:=WJ hle
  exact zx.blk (by simp[ZA]) o1 (by rw[o2];exact h))) (c (c (λ_=>rfl) (λe=>Ld e d)) (c (λe=>Ld e.symm d) (λ_=>rfl))) (c (λt f=>v t f) (λt f=>n t f)) ⟨by show(qG _ _ _ _ 6000).isSome=true;rw[s0];rfl,by simp[WF,s1],trivial⟩
 rw[ea]at this;refine this.mono λe w2 hx=>?_;obtain⟨γ,rfl,g1,g2,T,Q⟩:=hx;refine⟨rfl,⟨KP.perm (md a b),KP.BP (CE ha hb) 24,?_⟩,λk H hn=>T k H (c (λe=>hn (.inl e.symm)) (λe=>hn (.inr e.symm))),Q⟩;have:=zx.of (by simp[outs]) (g2 _ LG);rw[(yw (hle.trans g1)).2]at this;exact this
end KQ
section
open TR
namespace GT
structure yq(et:Eg)(sz lo:Nat)(w:Ea)(v:Ei)(n:Nat)(vs:Ec):Prop where
 len:vs.length=n*sz
 ex:(n=0/\v = .slice none 0 0)\/∃x:Nat×Nat×Nat,v = .slice (some ⟨x.1,x.2.1,none⟩) n (n+x.2.2)/\zx prog w x et vs/\lo<=x.1
structure Ty1(st et:Eg)(sz:Nat):Prop where
 u:Tryz.prog.underlying st=some (.slice et)
 k1:(Tryz.prog.info? et).map (·.size)=some sz
 k2:(Tryz.prog.info? et).map (λi=>Nat.ble i.bytes 1000)=some true
 k3:((Tryz.prog.info? et).bind (·.zero)).map (λz=>z.cells.size)=some sz
 ts:qS prog et=sz
 pos:0<sz
def Ty1.inf{st:Eg}(T:Ty1 st t n):∃i z,Tryz.prog.info? t=some i/\i.size=n/\i.bytes<=1000/\i.zero=some z/\z.cells.size=n:=by
 have a:=T.k1;have k2:=T.k2;have k3:=T.k3
 cases hi:Tryz.prog.info? t with
 | none=>rw[hi]at a;cases a
 | some i=>
  rw[hi]at a k2 k3;obtain⟨z,c,b⟩:=LU.1 k3;exact⟨i,z,rfl,Aa a,Nat.ble_eq.mp (Aa k2),c,b⟩
def yq.grown(h:yq t m lo w v n a)(g:Grown w w2):yq t m lo w2 v n a:=
 ⟨h.len,h.ex.imp id λ⟨x,e,r,l⟩=>⟨x,e,qi g r,l⟩⟩
def yq.lower(h:yq t m lo w v n a)(hl:k<=lo):yq t m k w v n a:=
 ⟨h.len,h.ex.imp id λ⟨x,e,r,l⟩=>⟨x,e,r,Lj hl l⟩⟩
def nU{w':Ea}(b:qS prog t=m)(hl:a.length=n*m)(hn:0<n)(d:lo<=w.heap.size)(e:w'.ownsRow w.heap.size t m v n a):yq t m lo w' v n a/\∃q c,v = .slice (some q) n c:=by
 obtain⟨_,⟨_,p⟩|⟨g,cap,cur,rfl,h1,h2,h3,_,l,k⟩⟩:=e
 .omega
 .have hle:n*m<=cap*m:=mul_le_mul_right _ h3;refine⟨⟨hl,.inr ⟨(g,0,cap-n),?_,⟨cur,(0,0),h2,?_,λi _ h=>I,Nat.dvd_zero _,λj f=>?_⟩,Lj d h1⟩⟩,_,_,rfl⟩
  .rw[show n+(cap-n)=cap by omega]
  .rw[hl,b,l];show 0+n*m+(cap-n)*m<=cap*m;rw[Nat.sub_mul];omega
  .rw[Lz,<- k,getElem?_take,Y (by rw[<- hl];exact f),LV]
def Se(w:Ea){ops:Ep}{rest:Er}{o:Oper}{a:Act}{Q:Eo}{st:Eg}(T:Ty1 st t k)(s x:Ev){c0:Nat}{ad:Addr}{d:Ec}
  (hg:o.guard=none) (hop:o.op=Op.call { callee:=Callee.builtin Builtin.append,args:=#[s,x],argTypes:=#[st,st] }) (hrows:yq t k lo w (a.eval s) n d) (few:n+m<=100000) (hm:0<m) (hlo:lo<=w.heap.size)
  (hx:a.eval x = .slice (some ad) m c0) (hu:us.length=m*k) (hc:∀j u,us[j]?=some u->w.cell? (ad.add j)=some u) (hone:∀u∈us,u.oneCell'=true)
  (hK:∀g w',yq t k lo w' g (n+m) (d++us)->(∃q c,g = .slice (some q) (n+m) c)->Je (a.eval s) w w'->wpList prog ops Q rest (a.put o.dst g) w') :
  wpList prog ops Q (o::rest) a w:=by
 obtain⟨i,z,hi,k1,k2,hz,H⟩:=T.inf;have hb2:(n+m)*i.bytes<=140737488355328:=Lj (Nat.mul_le_mul few k2) C;have hb1:n+m<=maxLen:=by unfold maxLen;omega
 have hlen:(d++us).length=(n+m)*k:=by rw[Lm,hrows.len,hu,Nat.add_mul]
 have grown:∀g w',w'.ownsRow w.heap.size t k g (n+m) (d++us)->w.grownBy w' none->wpList prog ops Q rest (a.put o.dst g) w':=by
  intro g w' ho f;obtain⟨h1,h2⟩:=nU T.ts hlen I hlo ho;exact hK g w' h1 h2 ⟨λc hc _=>f.block c hc Oc,f.size,f.tape,f.os,f.output⟩
 rcases hrows.ex with⟨rfl,hs⟩|⟨y,hs,l,hlo2⟩
 .have hv:d=[]:=Ax (by rw[hrows.len,Nat.zero_mul]);subst hv;exact wpList_append_grows w hg s x st hop t i z k i.bytes T.u hi hz k1 rfl H T.pos none 0 0 [] hs (λ_=>⟨rfl,rfl⟩) Oc (λb h=>by cases h) _ m c0 _ hx hu hc hone I hb1 hb2 grown
 .have r:=l;obtain⟨arr,fz,r1,r2,r3,r4,r5⟩:=r;rw[hrows.len,T.ts]at r2;have hold:∀(j:Nat) (u:Ei),d[j]?=some u->w.cell? ⟨y.1,y.2.1+j,none⟩=some u:=λj u hj=>TR.cell_of_row l hj
  have room:n+m<=n+y.2.2->y.2.1+n*k+m*k<=arr.size:=λhr=>by
   have:m*k<=y.2.2*k:=mul_le_mul_right _ I;omega
  refine wpList_append_arg w hg s x st hop t i z k i.bytes T.u hi hz k1 rfl H T.pos y.1 y.2.1 n (n+y.2.2) d hs hrows.len hold _ m c0 _ hx hu hc hone (λhr j hj=>?_) hb1 hb2 (λhr=>?_) λ_=>grown
  .have:=room hr;have P:y.2.1+n*k+j<arr.size:=by omega
   refine⟨?_,?_⟩
   .unfold World.cell?;rw[r1];show(arr[y.2.1+n*k+j]?).isSome=true;rw[Av P];rfl
   .unfold World.frozen?;rw[r1];have:=r3 _ P;show(decide (fz.1<=y.2.1+n*k+j)&&decide (y.2.1+n*k+j<fz.2))=false;rw[AG,LH,LH];omega
  .have v:=room hr;have hsz:y.2.1+n*k+us.length<=arr.size:=by rw[hu];exact v
   obtain⟨p,g1,g2,g3,g4⟩:=jl y.1 us (y.2.1+n*k) w arr t fz r1 hsz;refine hK _ _ ⟨hlen,.inr ⟨(y.1,y.2.1,y.2.2-m),?_,⟨p,fz,g1,?_,λi hi=>r3 i I,r4,λj hj=>?_⟩,hlo2⟩⟩ ⟨_,_,rfl⟩ ⟨λc hc hne=>?_,?_,kz _ _ _ _,?_,?_⟩
   .rw[show n+m+(y.2.2-m)=n+y.2.2 by omega]
   .rw[hlen,T.ts,g2];show y.2.1+(n+m)*k+(y.2.2-m)*k<=arr.size;rw[Nat.sub_mul,Nat.add_mul];have:m*k<=y.2.2*k:=mul_le_mul_right _ I;omega
   .show p[y.2.1+j]?=_;rcases LD j d.length with h|h
    .rw[Ao h,g4 _ (by rw[hrows.len]at h;omega)];exact r5 j h
    .rw[Aj h];rw[Lm]at hj;have:=g3 (j-d.length) I;rw[<- hrows.len,show y.2.1+d.length+(j-d.length)=y.2.1+j by omega]at this;exact this
   .refine heap_setCells_other w _ _ _ hc λe=>hne _ _ _ hs e.symm
   .rw[kA];exact Lh _
   .exact os_setCells _ _ _ _
   .exact output_setCells _ _ _ _
def aj(w:Ea){ops:Ep}{rest:Er}{o:Oper}{a:Act}{Q:Eo}{st:Eg}(T:Ty1 st t n)(s x:Ev){c0:Nat}{k:Ed}{ad:Addr}
  (hg:o.guard=none) (hop:o.op=Op.call { callee:=Callee.builtin Builtin.append,args:=#[s,x],argTypes:=#[st,st] }) (hs:a.eval s = .slice k 0 0) (few:m<=100000) (hm:0<m)
  (hx:a.eval x = .slice (some ad) m c0) (hu:us.length=m*n) (hc:∀j u,us[j]?=some u->w.cell? (ad.add j)=some u) (hone:∀u∈us,u.oneCell'=true)
  (hK:∀q c w',yq t n w.heap.size w' (.slice (some q) m c) m us->Grown w w'->wpList prog ops Q rest (a.put o.dst (.slice (some q) m c)) w') :
  wpList prog ops Q (o::rest) a w:=by
 obtain⟨i,z,hi,l,k2,p,e⟩:=T.inf;have f:(0+m)*i.bytes<=140737488355328:=Lj (Nat.mul_le_mul (show 0+m<=100000 by omega) k2) C;have g:0+m<=maxLen:=by unfold maxLen;omega
 refine wpList_append_grows w hg s x st hop t i z n i.bytes T.u hi p l rfl e T.pos k 0 0 [] hs (λ_=>⟨rfl,rfl⟩) Oc (λb _ j u r=>by cases r) _ m c0 us hx hu hc hone I g f λv w' h d=>?_;rw[Lz,nil_append]at h;obtain⟨h1,q,c,rfl⟩:=nU T.ts hu hm (Lh _) h;exact hK q c w' h1 ⟨λc hc=>d.block c hc Oc,d.size,d.tape,d.os,d.output⟩
def kI{b:Ec}(g:Grown u w)(h:yq t i u.heap.size w v n b)(k:Je v w w2):Grown u w2:=by
 refine⟨λc hc=>?_,Lj g.size k.size,k.tape.trans g.tape,k.os.trans g.os,k.output.trans g.output⟩;rw[k.Jl c (LK hc g.size) λp m d e hp=>?_,g.old c hc];rcases h.ex with⟨_,a⟩|⟨x,a,_,hl⟩
 .rw[a]at e;cases e
 .rw[a]at e;cases e;have hp:x.1=c:=hp;omega
def Fa:Ty1 93 42 14:=⟨U,U,U,U,U,C⟩
def ry:Ty1 94 29 32:=⟨U,U,U,U,U,C⟩
def ty3:Ty1 36 3 1:=⟨U,U,U,U,U,C⟩
end GT
end
end Go.AEv
