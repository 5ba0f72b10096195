/- Trails: H11x0. Conditions: each theorem's. -/
import Derived.Test.YtaffhpgaagnjfaaGreatDoorH10x0
set_option linter.all false
open List Go.Proofs.Tryz
open Go.Proofs
set_option maxHeartbeats 4000000
set_option maxRecDepth 100000
namespace Go.AEv
variable{es:List Ent}{w:Ea}
open Go
open Go.AuditPlain(zm)
open KT(zB)
open Go.AEv.GT(oD PD gx)
section
open TR
open Go.AuditPlain(put)
namespace RD
open Go.AEv.GT(kF)
structure zkR(Rs:List zy)(kb:Nat)(rest:Eb)(N:Nat):Prop where
 hist:iZ Rs
 acc:∀R∈Rs,RH.Acc R
 few:Rs.length<=8
 le:kb<=Rs.length
 all:kb=Rs.length
 len:(put Rs.length++Left Rs kb rest 0).length=N
 max:N<=100000
 len32:rest.length=32
 ne:rest≠Zf Rs
 recs:∀R∈Rs,R.qC.bytes.length<=N
def zeM(w:Ea)(e:Ew)(w2:Ea):Prop:=e = .returned (.tuple #[.pointer none,.int .i64 13])/\Grown w w2
def TQ{p:Ed}{n m:Nat}{b:List zy}{rest:Eb}(h:In w p (put n++Left b m rest 0)):(∀y∈rest,y<256)/\True:=⟨λy a=>h.1 y (by unfold Left;exact Ay _ (Ay _ a)),trivial⟩
def PS{b:List zy}{j:Nat}(a:es.map (·.1)=(b.take j).map nr)(c:j=b.length):kF (ja (es.map (·.1)))=Zf b:=by
 rw[a,c,take_length,wA];rfl
def zen{cs e:Ec}{rest:Eb}(d:cs=zB 32 (ja (es.map (·.1))))(c:e=zB 32 (λi=>rest.getD i 0))(a:¬rest=kF (ja (es.map (·.1))))(hl:rest.length=32)(b:∀y∈rest,y<256):∀w,(Op.equalIn 10000 29 (.agg cs.toArray) (.agg e.toArray)).run prog w = .ok false w:=by
 obtain⟨f,h1,h2⟩:=PD d c (λi=>AP.Yw _ i) (λi=>by
  rw[Aq]
  cases hi:rest[i]? with
  | none=>exact(by decide:0<256)
  | some x=>exact b x (LX hi))
 cases f with
 | false=>exact h1
 | true=>exact Ld ((gx hl).symm.trans (h2 rfl).symm) a
def TW{u d a:Ea}{t:Ei}{b o:Nat}{cs g:Ec}(h:RowKit.Hid (Fin u d a w t es b o g))(few:es.length<=8)(f:cs=zB 32 (ja (es.map (·.1)))):Calls prog 8 #[t] w λe w2=>e = .returned (.agg cs.toArray)/\RowKit.Hid (Fin u d a w2 t es b o g):=by
 have h:=h.o;refine Calls.mono (TC.mz few h.tr) λe w2 hp=>?_;obtain⟨k,k3,i,rfl⟩:=hp;refine⟨by rw[f],A ⟨⟨λc hc=>?_,Lj h.gr.size k.size,k.tape.trans h.gr.tape,k.os.trans h.gr.os,k.output.trans h.gr.output⟩,i,VW h.rng (k3.2 b h.lt λe=>?_),h.n0,h.lb,LK h.lt k.size⟩⟩
 .rw[k3.2 c (LK hc h.gr.size) λe=>?_,h.gr.old c hc];have:=h.n0;have l:d.heap.size<=c:=e.1;omega
 .have:=h.lb;have j:b<a.heap.size:=e.2;omega
def zdq{u a:Ea}{b g:Nat}{t:Ei}{rest:Eb}{l:Ec}(h:Rr u a w b g t es rest 0)(hl:rest.length=32)(j:l=zB 32 (λi=>rest.getD i 0)) :
  Calls prog 44 #[.pointer (some ⟨b,0,none⟩),.int .i64 32] w λe w2=>∃f d c4,e = .returned (.slice (some ⟨f,d,none⟩) 32 c4)/\N w2 b g [] 0/\Fin u a w w2 t es f d l:=by
 refine Calls.mono (nP (n:=32) h.at_ I) λe w2 k=>?_;obtain⟨p,c,m,_,k2,k5,_,k3,k4⟩:=k;rw[AO I]at k2;rw[drop_of_length_le I]at k3;obtain⟨f,d,rfl,hc⟩:=k2.2 (λe=>by rw[e]at hl;cases hl);have h2:=h.only k4 k3;have hb:¬(own a b/\b<w.heap.size):=λe=>by have:=h.bN;have r:a.heap.size<=b:=e.1;omega
 refine⟨f,d,c,m,k3,h2.gr,VO (KY h.tr) hb h.ty k4,by rw[j];exact(oD k2 hl).2,h.n0,k5 _ rfl,?_⟩;have:rest[0]?=some rest[0]:=Ly I;exact World.block_lt_of_cell? w2 _ (hc 0 _ this)
def Mi{p:Ed}{c N kb:Nat}{Rs:List zy}{rest:Eb}(hk:kG w)(hi:In w p (put Rs.length++Left Rs kb rest 0))(h:zkR Rs kb rest N):Calls prog 15 #[.slice p N c] w (zeM w):=by
 have TK:=A hk;have HI:=A hi;have H:=A h;clear hk hi h;go_enter func15,ntmps15
 go_wp2_with(first
  | (go_at_call 40;(with_reducible refine(Wm HI.o H.o.len H.o.max).mono ?_);rintro e w1 ⟨b,g,rfl,kb1,kg,kn,ka,kr,kt⟩;have KA:=A ka;have KB:=A kb1;have KG:=A (ka.glt (nQ _ _));have KR:=A kr;have KT:=A kt;clear kb1 kg kn ka kr kt)
  | (go_at_call 22;(with_reducible refine(zcd TK.o KA.o KT.o KR.o KB.o KG.o).mono ?_);rintro e w2 ⟨a,rfl,H2⟩;have HR2:=A H2;clear H2)
  | (go_at_call 41;(with_reducible refine(Dh HR2.o H.o.few).mono ?_);rintro e w3 ⟨rfl,H3⟩;have HR3:=A H3;clear H3))
 .go_loopg [5,16] Rs.length (λk t i wr=>zcF w w1 b g Rs kb rest k t i wr)
  case atStart=>exact⟨0,a,[],I,Nat.zero_le _,rfl,rfl,rfl,HR3.o⟩
  case round=>
   obtain⟨j,a5,es,hj,hjk,rfl,rfl,hes,HR⟩:=hrel;have H4:=A HR;have HE:=A hes;have few8:RowKit.Hid (es.length<=8):=A (by have h1:=congrArg List.length hes;have:=H.o.few;simp at h1;omega);have NB:RowKit.Hid (N<=1000000):=A (by have:=H.o.max;omega);clear HR hes
   cases gk with
   | zero=>
    have hjm:¬((j:Int)<(Rs.length:Int)):=by omega
    have hl:RowKit.Hid (kb=Rs.length):=A (by have:=H.o.le;omega);have h5:=H4.o;rw[show j=kb by have:=hl.o;omega,fD]at h5;have H5:=A h5;have HJ:RowKit.Hid (j=Rs.length):=A (by have:=hl.o;omega);obtain⟨cs,hcs⟩:∃cs,cs=zB 32 (ja (es.map (·.1))):=⟨_,rfl⟩
    obtain⟨ds,hds⟩:∃ds,ds=zB 32 (λi=>rest.getD i 0):=⟨_,rfl⟩
    have HC:=A hcs;have HDS:=A hds;have EQ:=zen hcs hds (λe=>H.o.ne (by rw[<- PS HE.o HJ.o];exact e)) H.o.len32 (And.left (TQ HI.o));have hi29:=Qz hds;have h29:=under29;clear hcs hds
    go_wp2_with(first
     | (go_at_call 44;(with_reducible refine(zdq H5.o H.o.len32 HDS.o).mono ?_);rintro e w4 ⟨b4,o4,c4,rfl,ha,hf⟩;have HA4:=A ha;have HF4:=A hf;clear ha hf)
     | (go_at_call 45;(with_reducible refine(oP HA4.o rfl).mono ?_);rintro e w5 ⟨rfl,rfl⟩))
    have HL:=A (HF4.o.grown (zM _));have HR:=HL.o.rng;have hat:∀wx,(Instr.arrayAt 29 (.slice (some ⟨b4,o4,none⟩) 32 c4)).run prog wx = .ok (.pointer (some ⟨b4,o4,none⟩)) wx:=λwx=>run_arrayAt (P:=prog) wx 29 5 32 (some ⟨b4,o4,none⟩) 32 c4 under29 (Lh _)
    case _=>
     refine wp_region_noPanic ?_;refine wp_region_held_drew (S:=λwx=>wx.rangeAt b4 o4 ds/\RowKit.Hid (Fin w w1 wr wx (.pointer (some a5)) es b4 o4 ds)) U ?_ (λhHeld=>?_)
     .exact⟨HR,HL⟩
     refine wpAnyH_take (i:=0) (v:=.pointer (some a5)) rfl U U U (λ_ _ _ h=>h) (Or.inl ⟨by rfl,λwx _=>rfl⟩) (by assumption) ?_;simp only[Act.put,setIfInBounds_toArray,set_cons_zero,set_cons_succ];refine wpAnyH_take (i:=2) (v:=.slice (some ⟨b4,o4,none⟩) 32 c4) rfl U U U (λ_ _ _ h=>h) (Or.inl ⟨by rfl,λwx _=>rfl⟩) (by assumption) ?_;simp only[Act.put,setIfInBounds_toArray,set_cons_zero,set_cons_succ];refine wpAnyH_take (i:=3) (v:=.pointer (some ⟨b4,o4,none⟩)) rfl U U U (λ_ _ _ h=>h) (Or.inl ⟨by rfl,λwx _=>by go_simp⟩) (by assumption) ?_;simp only[Act.put,setIfInBounds_toArray,set_cons_zero,set_cons_succ];refine wpAnyH_take (i:=4) (v:=.agg ds.toArray) rfl U U U (λ_ _ _ h=>h) (yieldsIf_load_mid (by rfl) 29 (.tmp 48) rfl b4 o4 rfl ds (.array 32 5) (λ_ h=>h.1) under29 rfl hi29) (by assumption) ?_;simp only[Act.put,setIfInBounds_toArray,set_cons_zero,set_cons_succ];refine wpAnyH_ready (rs:=[1]) U Oc ?_;refine AllReadyH.cons (o:={ dst:=some 46,op:=Op.call { callee:=Callee.value (Operand.func 8),args:=#[Operand.tmp 45],argTypes:=#[24] },type:=29,pos := "audit.go:222",after:=#[{ on:=0,ground:=Ground.data }],guard:=none }) rfl (λK hK=>?_) AllReadyH.nil;go_simp;go_at_call 8
     with_reducible refine(TW HL few8.o HC.o).mono ?_
     rintro e wy ⟨rfl,HLy⟩
     have HRy:=HLy.o.rng;go_wp2_with fail;refine hK.out _ _ ⟨HRy,HLy⟩ (λhHeld=>?_);clear hK K;refine wpAnyH_take (i:=5) (v:=.bool true) rfl U U U (λ_ _ _ h=>h) (Or.inl ⟨by rfl,λwx _=>by go_simp⟩) (by assumption) ?_;simp only[Act.put,setIfInBounds_toArray,set_cons_zero,set_cons_succ];refine wpAnyH_done U ?_ _;refine NoPanic.normal ?_;go_wp2;go_ret2
     exact⟨rfl,HLy.o.gr⟩
   | succ k=>
    have hjm:(j:Int)<(Rs.length:Int):=by omega
    have hw64:RowKit.wrap64 ((j:Int)+1)=(j:Int)+1:=by unfold RowKit.wrap64;have:=H.o.few;omega
    obtain⟨R,hR⟩:∃R,Rs[j]?=some R:=⟨_,Ly I⟩
    have hmem:=LX hR;have hacc:=A (H.o.acc R hmem);by_cases hk:j<kb
    .have h5:=H4.o;rw[mn hk hR]at h5;have H5:=A h5;have hb:=A (QE (m:=N) (H.o.recs R hmem) NB.o (Left Rs kb rest (j+1)));have hhist:=A (H.o.hist j R hR);obtain⟨M,hM⟩:∃M,R.qC.bytes.length=M:=⟨_,rfl⟩
     have HM:=A hM;clear h5 hM
     go_wp2_with(first
      | (go_at_call 43;(with_reducible refine(Dq H5.o NB.o hb.o HM.o).mono ?_);rintro e w4 ⟨p4,c4,rfl,hi,hr⟩;have HI4:=A hi;have H6:=A hr;clear hi hr)
      | (go_at_call 42;(with_reducible refine(zcp H6.o HI4.o HM.o hacc.o.good hacc.o.day).mono ?_);rintro e w5 ⟨p1,n1,c1,p2,n2,c2,rfl,hr,hu,hd⟩;have H7:=A hr;have HU:=A hu;have HD:=A hd;clear hr hu hd)
      | (go_at_call 12;(with_reducible refine(zcw TK.o (H7.o.grown (zc _ _)) few8.o HE.o hacc.o.ok hhist.o ((qh.zH (zc _ _)).atS HU.o) ((qh.zH (zc _ _)).atS HD.o)).mono ?_);rintro e w6 ⟨a6,z1,z2,rfl,hr⟩;have H8:=A hr;clear hr))
     go_roundg k
     case measure=>omega
     case rel=>exact⟨j+1,a6,es++[(nr R,z1,z2)],I,I,(by rw[hw64];rfl),rfl,rQ HE.o hR,H8.o⟩
    .exact Ld (by have:=H.o.all;omega) hk
end RD
end
end Go.AEv
