/- Trails: H10x0. Conditions: each theorem's. -/
import Derived.Test.YtaffhpgaagnjfaaGreatDoorL10a
set_option linter.all false
open List Go.Proofs.Tryz UInt8
open Go.Proofs
set_option maxHeartbeats 8000000
set_option maxRecDepth 100000
namespace Go.AEv
variable{b g n:Nat}{cs:Ec}{es:List Ent}{t:Ei}{u w:Ea}
open Go
open Go.AuditPlain(zm)
open KT(zB)
open RD(recAt S AtU jy Ty stB stU pS qO)
open NV(QG)
open KW(JZ)
section
open TR
open Go.AuditPlain(put)
open RD(In)
namespace GT
def DH(w:Ea)(L:Eb)(e:Ew)(w2:Ea):Prop:=Grown w w2/\((e = .returned (.tuple #[.pointer none,.int .i64 6])\/e = .returned (.tuple #[.pointer none,.int .i64 13]))\/∃a es D,e = .returned (.tuple #[.pointer (some a),.int .i64 0])/\qY w.heap.size w2 (.pointer (some a)) es D/\(∀x∈es,JZ x.1)/\es.length<=4000/\ia es D=L)
def Cl{w2:Ea}{L:Eb}(g:Grown w w2):DH w L (.returned (.tuple #[.pointer none,.int .i64 6])) w2:=⟨g,.inl (.inl rfl)⟩
def zdm{w2:Ea}{L:Eb}(g:Grown w w2):DH w L (.returned (.tuple #[.pointer none,.int .i64 13])) w2:=⟨g,.inl (.inr rfl)⟩
def iy(L:Eb)(n:Nat)(es:List Ent)(s:S):Prop:=(∀x∈es,JZ x.1)/\(s.2=true/\L=(put n++qO (es.map (·.1)))++s.1\/s.2=false/\n=0)
def zir(w0 wN:Ea)(b g:Nat)(L:Eb)(n k:Nat)(t i:Ei)(w:Ea):Prop:=∃(j:Nat) (a:Addr) (es:List Ent) (D:Nat->Nat->Nat) (s:S),j+k=n/\i = .int .i64 j/\t = .pointer (some a)/\es.length=j/\iy L n es s/\Rg w0 wN w b g s (.pointer (some a)) es D
def IG{L:Eb}{s:S}(hl:∀y∈L,y<256)(h:stU 4000 (L,true)=(n,s)):iy L n [] s:=by
 refine⟨λx hx=>(by cases hx),?_⟩
 cases hs:s.2 with
 | true=>
  have:=RD.Xi h hs hl;refine .inl ⟨rfl,?_⟩;show L=(put n++[])++s.1;rw[AJ]
  exact this
 | false=>
  refine .inr ⟨rfl,?_⟩;unfold stU at h;simp only[if_true]at h;split at h
  .cases h;cases hs
  .cases h;rfl
def zfk{L:Eb}{s:S}(hl:∀y∈L,y<256)(h:iy L n es s)(hs:s.2=true):∀y∈s.1,y<256:=by
 rcases h.2 with⟨_,e⟩|⟨e,_⟩
 .intro y a;exact hl y (by rw[e];exact Ay _ a)
 .rw[hs]at e;cases e
def SC{L M:Eb}{m:Nat}{s s':S}{R:zy}{v z2:Ei}(hl:∀y∈L,y<256)(h:iy L n es s)(hn:n≠0)(hb:stB m s=(M,s'))(hd:pS M.length M R true)(hR:JZ R):iy L n (es++[(R,v,z2)]) s':=by
 refine⟨λx hx=>?_,?_⟩
 .rcases LJ.1 hx with h1|h1
  .exact h.1 x h1
  .rw[Lu]at h1;subst h1;exact hR
 .rcases h.2 with⟨hs,e⟩|⟨_,e⟩
  .have b:=zfk hl h hs;have d:=RD.vO (RD.au hb b) hd
   cases a:s'.2 with
   | true=>
    refine .inl ⟨rfl,?_⟩;rw[Az,show[(R,v,z2)].map (·.1)=[R] from rfl,sq,e,RD.WW hb a b];have:qO [R]=zm M:=by unfold qO;rw[List.flatMap_singleton,d]
    rw[this,Ae,Ae,Ae]
   | false=>
    exfalso
    have c:M=[]:=by
     unfold stB at hb;rw[Y hs]at hb;split at hb
     .cases hb;cases a
     .cases hb;rfl
    rw[c]at d;exact RD.X9 R d
  .exact Ld e hn
def Nf{L M:Eb}{m:Nat}{s s':S}(_:iy L n es s)(hm:m<=1000)(hb:stB m s=(M,s')):M.length<=1000:=Lj (RD.BV hb) hm
def zey{L:Eb}(h:RD.N w b g L 0):AtU w b g (L,true):=⟨0,⟨λ_=>rfl,λ_=>rfl⟩,h⟩
def RoG(w0 wN w:Ea)(b g:Nat)(s:S)(t:Ei)(es:List Ent)(D:Nat->Nat->Nat)(e:Ew)(w2:Ea):Prop:=∃v s',e = .returned v/\Rg w0 wN w2 b g s' t es D/\(RowKit.Hid (s'.2=false)\/∃b4 o4 c4,v = .slice (some ⟨b4,o4,none⟩) 32 c4/\RowKit.Hid (In w2 (some ⟨b4,o4,none⟩) (s.1.take 32)/\w.heap.size<=b4/\s.2=true/\32<=s.1.length/\s'=(s.1.drop 32,true)))
def zdo{a:Ea}{s:S}{D:Nat->Nat->Nat}(h:Rg u a w b g s t es D):Calls prog 44 #[.pointer (some ⟨b,0,none⟩),.int .i64 32] w (RoG u a w b g s t es D):=
 (zfH h.at_).mono λ_ _ ⟨v,s',j,k2,k3,k4⟩=>⟨v,s',j,h.only k3 k2,k4.imp (λh=>A h) λ⟨q1,q2,f,k,i,c4,e,d,c⟩=>⟨k,i,c4,e,A ⟨d,c,q1,q2,f⟩⟩⟩
def zgP{c:Ea}{s:S}{D:Nat->Nat->Nat}(h:Rg u c w b g s t es D)(hs:s.2=false):Calls prog 45 #[.pointer (some ⟨b,0,none⟩)] w λe w2=>∃a:Int,(a != 0)=true/\e = .returned (.int .i64 a)/\w=w2:=
 (RD.PG h.at_).mono λ_ _ ⟨a,d,k2,k3⟩=>⟨a,by rw[hs]at k2;simpa using k2,d,k3⟩
def zgO{c:Ea}{s:S}{D:Nat->Nat->Nat}(h:Rg u c w b g s t es D):Calls prog 45 #[.pointer (some ⟨b,0,none⟩)] w λe w2=>∃a:Int,e = .returned (.int .i64 a)/\w=w2/\((a != 0)=false->s.1=[]):=
 (RD.PG h.at_).mono λ_ _ ⟨a,d,k2,k3⟩=>⟨a,d,k3,λhn=>by
  have:a=0:=by simpa using hn
  subst this;have k2:true=(s.2&&s.1.isEmpty):=k2;have:=k2.symm;simp only[Le]at this
  exact List.isEmpty_iff.1 this.2⟩
def oD{o:Nat}{X:Eb}(h:In w (some ⟨b,o,none⟩) X)(hl:X.length=32):(∀i,X.getD i 0<256)/\w.rangeAt b o (zB 32 (λi=>X.getD i 0)):=by
 refine⟨λi=>?_,λj v c=>?_⟩
 .rw[Aq]
  cases hi:X[i]? with
  | none=>exact(by decide:0<256)
  | some x=>exact h.1 x (LX hi)
 .have a:j<32:=by have:=(LL.1 c).1;rwa[KT.qT]at this
  unfold zB at c;rw[Lw,Ah a]at c;cases c;refine RD.tN h j _ ?_;show X[j]?=some (X.getD j 0);rw[Aq,Ly I];rfl
def gx{X:Eb}(hl:X.length=32):kF (λi=>X.getD i 0)=X:=by
 unfold kF;apply AF;intro i;rw[Lw];rcases LD i 32 with hi|hi
 .rw[Ah hi];show some (X.getD i 0)=X[i]?;rw[Aq,Ly I];rfl
 .rw[Au (by rw[As];exact hi),Au I];rfl
def PD{e:Ec}{f g:Ek}(b:cs=zB 32 f)(a:e=zB 32 g)(d:∀i,f i<256)(c:∀i,g i<256):∃j:Bool,(∀w,(Op.equalIn 10000 29 (.agg cs.toArray) (.agg e.toArray)).run prog w = .ok j w)/\(j=true->kF f=kF g):=by
 refine⟨((List.range 32).map λi=>UInt8.ofNat (f i))==((List.range 32).map λi=>UInt8.ofNat (g i)),λw=>?_,λh=>?_⟩
 .rw[b,a,WG d,WG c,run_equalIn_bytes w 9998 29 5 32 under29 under5 zga _ _ Oc Oc]
 .have h:=eq_of_beq h;unfold kF;refine Ab λi hi=>?_;have hi:=Lr.1 hi;have:=congrArg (λl=>l[i]?) h;simp only[Lw,Ah hi,Ac,Ag]at this;have h2:=congrArg UInt8.toNat this;rwa[toNat_ofNat',toNat_ofNat',AA (d i),AA (c i)]at h2
def Pd{lo:Nat}{a:Addr}{D:Nat->Nat->Nat}(h:RowKit.Hid (qY lo w (.pointer (some a)) es D/\Grown u w))(b:cs=zB 32 (D es.length)):Calls prog 8 #[.pointer (some a)] w λe w2=>e = .returned (.agg cs.toArray)/\RowKit.Hid (qY lo w2 (.pointer (some a)) es D/\Grown u w2)/\Grown w w2:=
 (wX h.o.1 b).mono λ_ _ k=>⟨k.1,A ⟨h.o.1.grown k.2,h.o.2.trans' k.2⟩,k.2⟩
def Ph{lo:Nat}{v:Ei}{D:Nat->Nat->Nat}(h:qY lo w v es D)(hl:n<=lo):qY n w v es D:=by
 obtain⟨x,hd,p,c,e,d,b,a,i,g,f⟩:=h.ex;exact⟨⟨x,hd,p,c,e,d,b,a.lower hl,Lj hl i,Lj hl g,f⟩,h.lists,h.lt⟩
def eO{g f c:Ea}{L:Eb}{a:Addr}{D:Nat->Nat->Nat}{s s':S}{m k:Nat}(d:iy L n es s)(hn:es.length=n)(hx:In g (some ⟨m,k,none⟩) (s.1.take 32)/\f.heap.size<=m/\s.2=true/\32<=s.1.length/\s'=(s.1.drop 32,true))(b:s'.1=[])(l:w.heap.size<=u.heap.size)(_:cs=zB 32 (D es.length))(he:kF (D es.length)=kF (λi=>(s.1.take 32).getD i 0))(h:RowKit.Hid (qY u.heap.size c (.pointer (some a)) es D/\Grown w c))(few:n<=4000):DH w L (.returned (.tuple #[.pointer (some a),.int .i64 0])) c:=by
 obtain⟨_,_,h2,h3,j⟩:=hx;refine⟨h.o.2,.inr ⟨a,es,D,rfl,Ph h.o.1 l,d.1,I,?_⟩⟩;have hd:s.1.drop 32=[]:=by rw[j]at b;exact b
 have hl:s.1.length=32:=by have:=congrArg List.length hd;rw[length_drop]at this;simp at this;omega
 rw[AO I,gx hl]at he;rcases d.2 with⟨_,e⟩|⟨e,_⟩
 .unfold ia;rw[he,e,hn]
 .rw[h2]at e;cases e
def zcq{a:Ea}{s:S}{D:Nat->Nat->Nat}(h:Rg u a w b g s t es D){p:Ed}{c:Nat}{M:Eb}{R:zy}{ok:Bool}(hi:In w p M)(hn:M.length=n)(hb:M.length<=1000)(d:pS M.length M R ok):Calls prog 42 #[.slice p n c] w (zix u a b g s t es D R ok):=by
 subst hn;exact zeq h hi rfl I d
def zdl{p:Ed}{c N:Nat}{L:Eb}(hk:kG w)(hm:QG w)(hi:In w p L)(hN:L.length=N)(hne:L≠[])(few:N<=1000):Calls prog 15 #[.slice p N c] w (DH w L):=by
 obtain⟨n,s0,hn⟩:∃n s0,stU 4000 (L,true)=(n,s0):=⟨_,_,rfl⟩
 have hn4:n<=4000:=RD.X3 hn;have HN4:=A hn4;have TK:=A hk;have MC:=A hm;have HI:=A hi;have HN:=A hN;have NE:=A hne;have FEW:=A few;have HST:=A hn;have F6:RowKit.Hid (N<=100000/\N<=1000000):=A I;clear hk hm hi hN hne few hn;go_enter func15,ntmps15
 go_wp2_with(first
  | (go_at_call 40;(with_reducible refine(RD.Wm HI.o HN.o F6.o.1).mono ?_);rintro e w1 ⟨b,g,rfl,kb1,kg,kn,ka,kr,kt⟩;have KA:=A ka;have KB:=A kb1;have KG:=A (ka.glt NE.o);have KR:=A kr;have KT:=A kt;clear kb1 kg kn ka kr kt)
  | (go_at_call 22;(with_reducible refine(M4 TK.o (zey KA.o) KT.o KR.o KB.o KG.o).mono ?_);rintro e w2 ⟨a,rfl,H2⟩;have HR2:=A H2;clear H2)
  | (go_at_call 41;(with_reducible refine(zbh HR2.o HST.o).mono ?_);rintro e w3 ⟨rfl,H3⟩;have HR3:=A H3;clear H3))
 .go_loopg [5,16] n (λk t i wr=>zir w w1 b g L n k t i wr)
  case atStart=>exact⟨0,a,[],_,s0,I,rfl,rfl,rfl,IG (And.left HI.o) HST.o,HR3.o⟩
  case round=>
   obtain⟨j,a5,es,D,s,hj,rfl,rfl,hel,hso,HR⟩:=hrel;have H4:=A HR;have HEL:=A hel;have SO:=A hso;clear HR hel hso
   cases gk with
   | zero=>
    have hjm:¬((j:Int)<(n:Int)):=by omega
    have HJN:RowKit.Hid (es.length=n):=A (by rw[HEL.o];omega)
    go_wp2_with(first
     | (go_at_call 44;(with_reducible refine(zdo H4.o).mono ?_);rintro e w4 ⟨v4,s4,rfl,hr,hor⟩;have H6:=A hr;clear hr;rcases hor with HF4|⟨b4,o4,c4,rfl,HX⟩)
     | (go_at_call 45;(with_reducible refine(zgP H6.o HF4.o).mono ?_);rintro e w5 ⟨er,hee,rfl,rfl⟩)
     | (go_at_call 45;(with_reducible refine(zgO H6.o).mono ?_);rintro e w5 ⟨er,rfl,rfl,hne⟩;have HE:=A hne;clear hne;cases hee:(er != 0)))
    .go_ret2
     exact Cl H6.o.gr
    .obtain⟨q4,q5,q1,q2,q3⟩:=HX.o;obtain⟨cs,hcs⟩:∃cs,cs=zB 32 (D es.length):=⟨_,rfl⟩
     obtain⟨ds,hds⟩:∃ds,ds=zB 32 (λi=>(s.1.take 32).getD i 0):=⟨_,rfl⟩
     have HC:=A hcs;have HDS:=A hds;have hlt:=oD q4 (by rw[Ar];omega);obtain⟨bq,EQ,hbq⟩:=PD hcs hds (H6.o.tr.lt es.length) hlt.1;have HBQ:=A hbq;have HR:w4.drew.rangeAt b4 o4 ds:=KQ.kq (by rw[hds];exact hlt.2) (zM w4);have HL:RowKit.Hid (qY w1.heap.size w4.drew (.pointer (some a5)) es D/\Grown w w4.drew):=A ⟨H6.o.tr.grown (zM w4),H6.o.gr.trans' (zM w4)⟩;have hi29:=Qz hds;have h29:=under29;have hat:∀wx,(Instr.arrayAt 29 (.slice (some ⟨b4,o4,none⟩) 32 c4)).run prog wx = .ok (.pointer (some ⟨b4,o4,none⟩)) wx:=λwx=>run_arrayAt (P:=prog) wx 29 5 32 (some ⟨b4,o4,none⟩) 32 c4 under29 (Lh _);clear q4 q5 q1 q2 q3 hcs hds hlt hbq
     cases bq with
     | true=>
      refine wp_region_noPanic ?_;refine wp_region_held_drew (S:=λwx=>wx.rangeAt b4 o4 ds/\RowKit.Hid (qY w1.heap.size wx (.pointer (some a5)) es D/\Grown w wx)) U ?_ (λhHeld=>?_)
      .exact⟨HR,HL⟩
      refine wpAnyH_take (i:=0) (v:=.pointer (some a5)) rfl U U U (λ_ _ _ h=>h) (Or.inl ⟨by rfl,λwx _=>rfl⟩) (by assumption) ?_;simp only[Act.put,setIfInBounds_toArray,set_cons_zero,set_cons_succ];refine wpAnyH_take (i:=2) (v:=.slice (some ⟨b4,o4,none⟩) 32 c4) rfl U U U (λ_ _ _ h=>h) (Or.inl ⟨by rfl,λwx _=>rfl⟩) (by assumption) ?_;simp only[Act.put,setIfInBounds_toArray,set_cons_zero,set_cons_succ];refine wpAnyH_take (i:=3) (v:=.pointer (some ⟨b4,o4,none⟩)) rfl U U U (λ_ _ _ h=>h) (Or.inl ⟨by rfl,λwx _=>by go_simp⟩) (by assumption) ?_;simp only[Act.put,setIfInBounds_toArray,set_cons_zero,set_cons_succ];refine wpAnyH_take (i:=4) (v:=.agg ds.toArray) rfl U U U (λ_ _ _ h=>h) (yieldsIf_load_mid (by rfl) 29 (.tmp 48) rfl b4 o4 rfl ds (.array 32 5) (λ_ h=>h.1) under29 rfl hi29) (by assumption) ?_;simp only[Act.put,setIfInBounds_toArray,set_cons_zero,set_cons_succ];refine wpAnyH_ready (rs:=[1]) U Oc ?_;refine AllReadyH.cons (o:={ dst:=some 46,op:=Op.call { callee:=Callee.value (Operand.func 8),args:=#[Operand.tmp 45],argTypes:=#[24] },type:=29,pos := "audit.go:222",after:=#[{ on:=0,ground:=Ground.data }],guard:=none }) rfl (λK hK=>?_) AllReadyH.nil;go_simp;go_at_call 8
      with_reducible refine(Pd HL HC.o).mono ?_
      rintro e wy ⟨rfl,HLy,gy⟩
      have HRy:=KQ.kq HR gy;go_wp2_with fail;refine hK.out _ _ ⟨HRy,HLy⟩ (λhHeld=>?_);clear hK K;refine wpAnyH_take (i:=5) (v:=.bool false) rfl U U U (λ_ _ _ h=>h) (Or.inl ⟨by rfl,λwx _=>by go_simp⟩) (by assumption) ?_;simp only[Act.put,setIfInBounds_toArray,set_cons_zero,set_cons_succ];refine wpAnyH_done U ?_ _;refine NoPanic.normal ?_;go_wp2;go_ret2
      exact eO SO.o HJN.o HX.o (HE.o hee) H6.o.n0 HC.o (HBQ.o (by trivial)) HLy HN4.o
     | false=>
      refine wp_region_noPanic ?_;refine wp_region_held_drew (S:=λwx=>wx.rangeAt b4 o4 ds/\RowKit.Hid (qY w1.heap.size wx (.pointer (some a5)) es D/\Grown w wx)) U ?_ (λhHeld=>?_)
      .exact⟨HR,HL⟩
      refine wpAnyH_take (i:=0) (v:=.pointer (some a5)) rfl U U U (λ_ _ _ h=>h) (Or.inl ⟨by rfl,λwx _=>rfl⟩) (by assumption) ?_;simp only[Act.put,setIfInBounds_toArray,set_cons_zero,set_cons_succ];refine wpAnyH_take (i:=2) (v:=.slice (some ⟨b4,o4,none⟩) 32 c4) rfl U U U (λ_ _ _ h=>h) (Or.inl ⟨by rfl,λwx _=>rfl⟩) (by assumption) ?_;simp only[Act.put,setIfInBounds_toArray,set_cons_zero,set_cons_succ];refine wpAnyH_take (i:=3) (v:=.pointer (some ⟨b4,o4,none⟩)) rfl U U U (λ_ _ _ h=>h) (Or.inl ⟨by rfl,λwx _=>by go_simp⟩) (by assumption) ?_;simp only[Act.put,setIfInBounds_toArray,set_cons_zero,set_cons_succ];refine wpAnyH_take (i:=4) (v:=.agg ds.toArray) rfl U U U (λ_ _ _ h=>h) (yieldsIf_load_mid (by rfl) 29 (.tmp 48) rfl b4 o4 rfl ds (.array 32 5) (λ_ h=>h.1) under29 rfl hi29) (by assumption) ?_;simp only[Act.put,setIfInBounds_toArray,set_cons_zero,set_cons_succ];refine wpAnyH_ready (rs:=[1]) U Oc ?_;refine AllReadyH.cons (o:={ dst:=some 46,op:=Op.call { callee:=Callee.value (Operand.func 8),args:=#[Operand.tmp 45],argTypes:=#[24] },type:=29,pos := "audit.go:222",after:=#[{ on:=0,ground:=Ground.data }],guard:=none }) rfl (λK hK=>?_) AllReadyH.nil;go_simp;go_at_call 8
      with_reducible refine(Pd HL HC.o).mono ?_
      rintro e wy ⟨rfl,HLy,gy⟩
      have HRy:=KQ.kq HR gy;go_wp2_with fail;refine hK.out _ _ ⟨HRy,HLy⟩ (λhHeld=>?_);clear hK K;refine wpAnyH_take (i:=5) (v:=.bool true) rfl U U U (λ_ _ _ h=>h) (Or.inl ⟨by rfl,λwx _=>by go_simp⟩) (by assumption) ?_;simp only[Act.put,setIfInBounds_toArray,set_cons_zero,set_cons_succ];refine wpAnyH_done U ?_ _;refine NoPanic.normal ?_;go_wp2;go_ret2
      exact zdm HLy.o.2
    .go_ret2
     exact Cl H6.o.gr
   | succ k=>
    have hjm:(j:Int)<(n:Int):=by omega
    have hw64:RowKit.wrap64 ((j:Int)+1)=(j:Int)+1:=by unfold RowKit.wrap64;omega
    have HW:=A hw64;obtain⟨M,s',hB⟩:∃M s',stB N s=(M,s'):=⟨_,_,rfl⟩
    have HB:=A hB;obtain⟨R,ok,hR⟩:=RD.ziU M.length M;have HRD:=A hR;have WD:=A (RD.FF (Nf SO.o FEW.o HB.o) hR);clear hB hR hw64
    cases ok with
    | true=>
     go_wp2_with(first
      | (go_at_call 43;(with_reducible refine(uz H4.o F6.o.2 HB.o).mono ?_);rintro e w4 ⟨p4,n4,c4,rfl,k0,hi,hr⟩;have N4:=A k0;have HI4:=A hi;have H6:=A hr;clear k0 hi hr)
      | (go_at_call 42;(with_reducible refine(zcq H6.o HI4.o N4.o (Nf SO.o FEW.o HB.o) HRD.o).mono ?_);rintro e w5 ⟨p1,n1,c1,p2,n2,c2,rfl,hr,hu,hd⟩;have H7:=A hr;have HU:=A hu;have HD:=A hd;clear hr hu hd)
      | (go_at_call 12;(with_reducible refine(Rj TK.o MC.o (H7.o.grown (zc _ _)) WD.o ((qh.zH (zc _ _)).atS HU.o) ((qh.zH (zc _ _)).atS HD.o)).mono ?_);rintro e w6 ⟨kg,kr⟩;have G6:=A kg;clear kg;rcases kr with⟨er,hne,rfl⟩|⟨a6,z1,z2,D2,rfl,hr⟩))
     .go_ret2
      exact Cl G6.o
     .go_roundg k
      case measure=>omega
      case rel=>exact⟨j+1,a6,es++[(R,z1,z2)],D2,s',I,(by first|rfl|(rw[HW.o];rfl)),rfl,by rw[Lm,HEL.o];rfl,SC (And.left HI.o) SO.o I HB.o HRD.o WD.o,hr⟩
    | false=>
     go_wp2_with(first
      | (go_at_call 43;(with_reducible refine(uz H4.o F6.o.2 HB.o).mono ?_);rintro e w4 ⟨p4,n4,c4,rfl,k0,hi,hr⟩;have N4:=A k0;have HI4:=A hi;have H6:=A hr;clear k0 hi hr)
      | (go_at_call 42;(with_reducible refine(zcq H6.o HI4.o N4.o (Nf SO.o FEW.o HB.o) HRD.o).mono ?_);rintro e w5 ⟨p1,n1,c1,p2,n2,c2,rfl,hr,hu,hd⟩;have H7:=A hr;have HU:=A hu;have HD:=A hd;clear hr hu hd)
      | (go_at_call 12;(with_reducible refine(Rj TK.o MC.o (H7.o.grown (zc _ _)) WD.o ((qh.zH (zc _ _)).atS HU.o) ((qh.zH (zc _ _)).atS HD.o)).mono ?_);rintro e w6 ⟨kg,kr⟩;have G6:=A kg;clear kg;rcases kr with⟨er,hne,rfl⟩|⟨a6,z1,z2,D2,rfl,hr⟩))
     all_goals(go_ret2;exact Cl G6.o)
end GT
end
end Go.AEv
