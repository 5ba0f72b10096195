/- Reading a trail: what is handed in, and the walk. Conditions: no more than eight records. -/
import Derived.Test.YtaffhpgaagnjfaaGreatDoorL5a
import Derived.Deep.RegionHeld3
import Derived.Laws.Cover3
open List Go.World Go.Lib Go.Proofs.Tryz
set_option maxHeartbeats 4000000
set_option maxRecDepth 100000
namespace Go.AEv
section
open Go Go.Proofs TR
open Go.AuditPlain (put zt)
open KT (zF)
namespace RD
set_option linter.unusedSimpArgs false
theorem Jk(R:zy)(Rs:List zy):qY (R::Rs)=zt R.qi.bytes++qY Rs:=by unfold qY;rw[flatMap_cons]
noncomputable def Left(Rs:List zy)(kb:Nat)(rest:List Nat)(j:Nat):List Nat:=qY ((Rs.take kb).drop j)++rest
theorem znY{Rs:List zy}{a j:Nat}{rest:List Nat}{R:zy}(b:j<a)(hR:Rs[j]?=some R):Left Rs a rest j=zt R.qi.bytes++Left Rs a rest (j+1):=by
 unfold Left;have h:(Rs.take a)[j]?=some R:=by rw[getElem?_take,if_pos b];exact hR
 obtain⟨hl,he⟩:=List.getElem?_eq_some_iff.1 h;rw[drop_eq_getElem_cons hl,he,Jk,List.append_assoc]
theorem zio{Rs:List zy}{a:Nat}{rest:List Nat}:Left Rs a rest a=rest:=by
 unfold Left;rw[drop_eq_nil_of_le (by rw[length_take];omega)];rfl
def zBh(w0 wN:World)(b g:Nat)(Rs:List zy)(kb:Nat)(rest:List Nat)(k:Nat)(t i:Value)(w:World):Prop:=∃(j:Nat) (a:Addr) (es:List Ent),j+k=Rs.length/\j<=kb/\i = .int .i64 j/\t = .pointer (some a)/\es.map (·.1)=(Rs.take j).map nr/\Rr w0 wN w b g (.pointer (some a)) es (Left Rs kb rest j) 0
def zsx(w0:World)(Rs:List zy)(v:Bool)(e:Ending)(w2:World):Prop:=
 if v then ∃a es,e = .returned (.tuple #[.pointer (some a),.int .i64 0])/\Grown w0 w2/\zU (own w0) w2 (.pointer (some a)) es/\es.map (·.1)=Rs.map nr
 else e = .returned (.tuple #[.pointer none,.int .i64 6])/\Grown w0 w2
structure Inp(Rs:List zy)(kb:Nat)(rest:List Nat)(N:Nat)(v:Bool):Prop where
 hist:zjt Rs
 acc:∀R∈Rs,RH.Acc R
 few:Rs.length<=8
 le:kb<=Rs.length
 len:(put Rs.length++Left Rs kb rest 0).length=N
 max:N<=100000
 cut:kb<Rs.length->jS N rest=none/\v=false
 full:kb=Rs.length->rest=jZ Rs/\v=true\/rest.length<32/\v=false\/32<rest.length/\v=false
 zwu:∀R∈Rs.take kb,R.qi.bytes.length<=N
theorem zaS{w:World}{p:Option Addr}{c N:Nat}{L:List Nat}(a:In w p L)(hN:L.length=N)(hlen:N<=100000):Calls prog 40 #[.slice p N c] w (zoQ w L):=by
 subst hN;exact VN a hlen
theorem zuR{c a w:World}{b g:Nat}{t:Value}{es:List Ent}{n:Nat}{l:List Nat}(h:Rr c a w b g t es (put n++l) 0)(hn:n<=8):Calls prog 41 #[.pointer (some ⟨b,0,none⟩),.int .i64 4000] w fun e w2=>e = .returned (.int .i64 (n:Nat))/\Rr c a w2 b g t es l 0:=by
 refine Calls.mono (zdt (m:=4000) h.at_ (by decide) (uint_put (by omega) (by decide) l)) fun e w2 k=>?_;exact⟨k.1,h.only k.2.2 k.2.1⟩
theorem zyT{f w:World}{b g:Nat}{L:List Nat}(o:Z6 f)(l:At w b g L 0)(i:Ty w b)(h:Grown f w)(hb:f.heap.size<=b)(j:g<w.heap.size):Calls prog 22 #[] w fun e w2=>∃a,e = .returned (.pointer (some a))/\Rr f w w2 b g (.pointer (some a)) [] L 0:=by
 refine Calls.mono (TC.KM (B:=own w) (fun c hc=>hc) (o.Z4 (qy.qt h))) fun e w2 k=>?_;obtain⟨g1,t,rfl,d⟩:=k;obtain⟨⟨x,hd,r,rfl,_⟩,_⟩:=id d;obtain⟨n,m,h2⟩:=i;exact⟨_,rfl,l.grown g1,⟨n,m,by rw[g1.old b (Array.getElem?_eq_some_iff.1 h2).1];exact h2⟩,d,h.trans' g1,(Array.getElem?_eq_some_iff.1 h2).1,j,g1.size,hb,h.size⟩
theorem zu8{d a w:World}{b g:Nat}{t:Value}{es:List Ent}{L L':List Nat}(h:Rr d a w b g t es L 0){N n:Nat}{M:List Nat}(hb:N<=1000000)(f:jS N L=some (M,L'))(i:M.length=n):Calls prog 43 #[.pointer (some ⟨b,0,none⟩),.int .i64 (N:Nat)] w fun e w2=>∃p c,e = .returned (.slice p n c)/\In w2 p M/\Rr d a w2 b g t es L' 0:=by
 subst i;exact zu7 h hb f
theorem zpo{es:List Ent}{Rs:List zy}{j:Nat}{R:zy}{b a:Value}(h:es.map (·.1)=(Rs.take j).map nr)(hR:Rs[j]?=some R):(es++[(nr R,b,a)]).map (·.1)=(Rs.take (j+1)).map nr:=by
 rw[take_add_one,hR,List.map_append,h,List.map_append];rfl
theorem zfV{w w2:World}{Rs:List zy}{v:Bool}(hv:v=false)(g:Grown w w2):zsx w Rs v (.returned (.tuple #[.pointer none,.int .i64 6])) w2:=by
 subst hv;exact⟨rfl,g⟩
theorem zrO{L:List Nat}(h:32<L.length):0<(L.drop 32).length:=by rw[length_drop];omega
theorem zyk{c a w:World}{b g:Nat}{t:Value}{es:List Ent}{L:List Nat}(h:Rr c a w b g t es L 0)(hs:L.length<32):Calls prog 44 #[.pointer (some ⟨b,0,none⟩),.int .i64 32] w (zsD c a b g t es L):=by
 refine Calls.mono (znD (m:=32) h.at_ hs) fun e w2 k=>?_;obtain⟨f,d,k2,k3,k4⟩:=k;exact⟨f,d,k2,h.only k4 k3⟩
theorem zyl{d a w:World}{b g:Nat}{t:Value}{es:List Ent}{L:List Nat}(h:Rr d a w b g t es L 0)(hs:32<L.length):Calls prog 44 #[.pointer (some ⟨b,0,none⟩),.int .i64 32] w fun e w2=>∃p c,e = .returned (.slice p 32 c)/\Rr d a w2 b g t es (L.drop 32) 0:=by
 refine Calls.mono (zpS (n:=32) h.at_ (by omega)) fun e w2 k=>?_;obtain⟨p,c,f,_,_,_,_,k3,k4⟩:=k;exact⟨p,c,f,h.only k4 k3⟩
structure Fin(w0 wN wT w:World)(t:Value)(es:List Ent)(b o:Nat)(cs:List Value):Prop where
 gr:Grown w0 w
 tr:zU (fun c=>own wN c/\c<wT.heap.size) w t es
 rng:w.rangeAt b o cs
 n0:w0.heap.size<=wN.heap.size
 lb:wT.heap.size<=b
 lt:b<w.heap.size
theorem zco{w w2:World}{b o:Nat}{cs:List Value}(h:w.rangeAt b o cs)(e:w2.heap[b]?=w.heap[b]?):w2.rangeAt b o cs:=fun j v c=>by
 rw[cell?_of_block (a:=⟨b,o+j,none⟩) e];exact h j v c
theorem Fin.grown{d c a w w2:World}{t:Value}{es:List Ent}{b o:Nat}{cs:List Value}(h:Fin d c a w t es b o cs)(k:Grown w w2):Fin d c a w2 t es b o cs:=
 ⟨h.gr.trans' k,Zw k h.tr,zco h.rng (k.old b h.lt),h.n0,h.lb,Nat.lt_of_lt_of_le h.lt k.size⟩
theorem zw8{g d a w:World}{t:Value}{es:List Ent}{b o:Nat}{cs:List Value}(h:RowKit.Hid (Fin g d a w t es b o cs))(few:es.length<=8)(f:cs=zF 32 (qN (es.map (·.1)))):Calls prog 8 #[t] w fun e w2=>e = .returned (.agg cs.toArray)/\RowKit.Hid (Fin g d a w2 t es b o cs):=by
 have h:=h.out;refine Calls.mono (TC.Jl few h.tr) fun e w2 hp=>?_;obtain⟨k,k3,i,rfl⟩:=hp;refine⟨by rw[f],hid ⟨⟨fun c hc=>?_,Nat.le_trans h.gr.size k.size,k.tape.trans h.gr.tape,k.os.trans h.gr.os,k.output.trans h.gr.output⟩,i,zco h.rng (k3.2 b h.lt fun e=>?_),h.n0,h.lb,Nat.lt_of_lt_of_le h.lt k.size⟩⟩
 .rw[k3.2 c (Nat.lt_of_lt_of_le hc h.gr.size) fun e=>?_,h.gr.old c hc];have:=h.n0;have l:d.heap.size<=c:=e.1;omega
 .have:=h.lb;have j:b<a.heap.size:=e.2;omega
theorem Km{B:Nat->Prop}{w:World}{t:Value}{es:List Ent}(h:zU B w t es):zU (fun c=>B c/\c<w.heap.size) w t es:=by
 obtain⟨⟨x,hd,r,e,d,b,a,o,k,j⟩,l⟩:=h;refine⟨⟨x,hd,r,e,d,b,a,⟨o,zw.lt d⟩,⟨k,zw.lt b⟩,fun p n m e=>⟨j p n m e,?_⟩⟩,l⟩;by_cases f:es=[]
 .rw[a.1 f]at e;cases e
 .obtain⟨y,i,g⟩:=a.2 f;rw[i]at e;cases e;exact zw.lt g
theorem zjB{B a:Nat->Prop}{w:World}{t:Value}{es:List Ent}(h:zU B w t es)(k:∀c,B c->a c):zU a w t es:=by
 obtain⟨⟨x,hd,r,e,f,d,b,j,i,g⟩,l⟩:=h;exact⟨⟨x,hd,r,e,f,d,b,k _ j,k _ i,fun p n m e=>k _ (g p n m e)⟩,l⟩
theorem zym{r d w:World}{b g j:Nat}{t:Value}{es:List Ent}{rest:List Nat}{Rs:List zy}{cs:List Value}(h:Rr r d w b g t es rest 0)(u:rest=jZ Rs)(m:es.map (·.1)=(Rs.take j).map nr)(z:j=Rs.length)(o:cs=zF 32 (qN (es.map (·.1)))) :
  Calls prog 44 #[.pointer (some ⟨b,0,none⟩),.int .i64 32] w fun e w2=>∃l f c4,e = .returned (.slice (some ⟨l,f,none⟩) 32 c4)/\At w2 b g [] 0/\Fin r d w w2 t es l f cs:=by
 have hl:rest.length=32:=by rw[u];exact ZO Rs
 refine Calls.mono (zpS (n:=32) h.at_ (by omega)) fun e w2 k=>?_;obtain⟨p,c,y,_,k2,x,_,k3,k4⟩:=k;rw[take_of_length_le (by omega)]at k2;rw[drop_of_length_le (by omega)]at k3;obtain⟨l,f,rfl,hc⟩:=k2.2 (fun e=>by rw[e]at hl;cases hl);have h2:=h.only k4 k3;have hb:¬(own d b/\b<w.heap.size):=fun e=>by have:=h.bN;have B:d.heap.size<=b:=e.1;omega
 have hd:qN (es.map (·.1))=qN Rs:=by rw[m,z,take_length,zkr]
 refine⟨l,f,c,y,k3,h2.gr,zb3 (Km h.tr) hb h.ty k4,fun i v hi=>?_,h.n0,x _ rfl,?_⟩
 .rw[o,hd]at hi;unfold zF at hi;rw[List.getElem?_map]at hi;obtain⟨a,A,rfl⟩:=Option.map_eq_some_iff.1 hi;exact hc i (qN Rs a) (by rw[u];unfold jZ;rw[List.getElem?_map,A];rfl)
 .have:rest[0]?=some rest[0]:=List.getElem?_eq_getElem (by omega);exact block_lt_of_cell? w2 _ (hc 0 _ this)
theorem zpO{w f e w2:World}{Rs:List zy}{v:Bool}{a:Addr}{es:List Ent}{b o j:Nat}{cs:List Value}(hv:v=true)(h:Fin w f e w2 (.pointer (some a)) es b o cs)(d:es.map (·.1)=(Rs.take j).map nr)(g:j=Rs.length):zsx w Rs v (.returned (.tuple #[.pointer (some a),.int .i64 0])) w2:=by
 subst hv;exact⟨a,es,rfl,h.gr,zjB h.tr fun c hc=>Nat.le_trans h.n0 hc.1,by rw[d,g,take_length]⟩
theorem UU{w:World}{p:Option Addr}{c N kb:Nat}{Rs:List zy}{rest:List Nat}{v:Bool}(hk:Z6 w)(hi:In w p (put Rs.length++Left Rs kb rest 0))(h:Inp Rs kb rest N v):Calls prog 15 #[.slice p N c] w (zsx w Rs v):=by
 have TK:=hid hk;have HI:=hid hi;have H:=hid h;clear hk hi h;go_enter func15,ntmps15
 go_wp2_with(first
  | (go_at_call 40;(with_reducible refine(zaS HI.out H.out.len H.out.max).mono ?_);rintro e w1 ⟨b,g,rfl,kb1,kg,kn,ka,kr,kt⟩;have KA:=hid ka;have KB:=hid kb1;have KG:=hid (ka.glt (zmc _ _));have KR:=hid kr;have KT:=hid kt;clear kb1 kg kn ka kr kt)
  | (go_at_call 22;(with_reducible refine(zyT TK.out KA.out KT.out KR.out KB.out KG.out).mono ?_);rintro e w2 ⟨a,rfl,H2⟩;have HR2:=hid H2;clear H2)
  | (go_at_call 41;(with_reducible refine(zuR HR2.out H.out.few).mono ?_);rintro e w3 ⟨rfl,H3⟩;have HR3:=hid H3;clear H3))
 .go_loopg [5,16] Rs.length (fun k t i wr=>zBh w w1 b g Rs kb rest k t i wr)
  case atStart=>exact⟨0,a,[],by omega,Nat.zero_le _,rfl,rfl,rfl,HR3.out⟩
  case round=>
   obtain⟨j,a5,es,hj,hjk,rfl,rfl,hes,HR⟩:=hrel;have H4:=hid HR;have HE:=hid hes;have few8:RowKit.Hid (es.length<=8):=hid (by have h1:=congrArg List.length hes;have:=H.out.few;simp at h1;omega);have NB:RowKit.Hid (N<=1000000):=hid (by have:=H.out.max;omega);clear HR hes
   cases gk with
   | zero=>
    have hjm:¬((j:Int)<(Rs.length:Int)):=by omega
    have hl:RowKit.Hid (kb=Rs.length):=hid (by have:=H.out.le;omega);have h5:=H4.out;rw[show j=kb by have:=hl.out;omega,zio]at h5;have H5:=hid h5;have hfull:=H.out.full hl.out;have HJ:RowKit.Hid (j=Rs.length):=hid (by omega);clear h5;rcases hfull with⟨hrest,hv⟩|⟨hlt,hv⟩|⟨hgt,hv⟩
    case inl=>
     have HV:=hid hv;have HRS:=hid hrest;obtain⟨cs,hcs⟩:∃cs,cs=zF 32 (qN (es.map (·.1))):=⟨_,rfl⟩
     have HC:=hid hcs;have EQ:=zrQ hcs;have hi29:=zrj hcs;have h29:=under29;clear hv hrest hcs
     go_wp2_with(first
      | (go_at_call 44;(with_reducible refine(zym H5.out HRS.out HE.out HJ.out HC.out).mono ?_);rintro e w4 ⟨b4,o4,c4,rfl,ha,hf⟩;have HA4:=hid ha;have HF4:=hid hf;clear ha hf)
      | (go_at_call 45;(with_reducible refine(zrJ HA4.out rfl).mono ?_);rintro e w5 ⟨rfl,rfl⟩))
     have HL:=hid (HF4.out.grown (JH _));have HR:=HL.out.rng;have hat:∀wx,(Instr.arrayAt 29 (.slice (some ⟨b4,o4,none⟩) 32 c4)).run prog wx = .ok (.pointer (some ⟨b4,o4,none⟩)) wx:=fun wx=>run_arrayAt (P:=prog) wx 29 5 32 (some ⟨b4,o4,none⟩) 32 c4 under29 (Nat.le_refl _)
     case _=>
      refine wp_region_noPanic ?_;refine wp_region_held_drew (S:=fun wx=>wx.rangeAt b4 o4 cs/\RowKit.Hid (Fin w w1 wr wx (.pointer (some a5)) es b4 o4 cs)) (by kernel_rfl) ?_ (fun hHeld=>?_)
      .exact⟨HR,HL⟩
      refine wpAnyH_take (i:=0) (v:=.pointer (some a5)) rfl (by kernel_rfl) (by kernel_rfl) (by kernel_rfl) (fun _ _ _ h=>h) (Or.inl ⟨by rfl,fun wx _=>rfl⟩) (by assumption) ?_;simp only[Act.put,setIfInBounds_toArray,set_cons_zero,set_cons_succ];refine wpAnyH_take (i:=2) (v:=.slice (some ⟨b4,o4,none⟩) 32 c4) rfl (by kernel_rfl) (by kernel_rfl) (by kernel_rfl) (fun _ _ _ h=>h) (Or.inl ⟨by rfl,fun wx _=>rfl⟩) (by assumption) ?_;simp only[Act.put,setIfInBounds_toArray,set_cons_zero,set_cons_succ];refine wpAnyH_take (i:=3) (v:=.pointer (some ⟨b4,o4,none⟩)) rfl (by kernel_rfl) (by kernel_rfl) (by kernel_rfl) (fun _ _ _ h=>h) (Or.inl ⟨by rfl,fun wx _=>by go_simp⟩) (by assumption) ?_;simp only[Act.put,setIfInBounds_toArray,set_cons_zero,set_cons_succ];refine wpAnyH_take (i:=4) (v:=.agg cs.toArray) rfl (by kernel_rfl) (by kernel_rfl) (by kernel_rfl) (fun _ _ _ h=>h) (yieldsIf_load_mid (by rfl) 29 (.tmp 48) rfl b4 o4 rfl cs (.array 32 5) (fun _ h=>h.1) under29 rfl hi29) (by assumption) ?_;simp only[Act.put,setIfInBounds_toArray,set_cons_zero,set_cons_succ];refine wpAnyH_ready (rs:=[1]) (by kernel_rfl) (by simp) ?_;refine AllReadyH.cons (o:={ dst:=some 46,op:=Op.call { callee:=Callee.value (Operand.func 8),args:=#[Operand.tmp 45],argTypes:=#[24] },type:=29,pos := "audit.go:222",after:=#[{ on:=0,ground:=Ground.data }],guard:=none }) rfl (fun K hK=>?_) AllReadyH.nil;go_simp
      go_at_call 8
      with_reducible refine(zw8 HL few8.out HC.out).mono ?_
      rintro e wy ⟨rfl,HLy⟩
      have HRy:=HLy.out.rng;go_wp2_with fail
      refine hK.out _ _ ⟨HRy,HLy⟩ (fun hHeld=>?_);clear hK K;refine wpAnyH_take (i:=5) (v:=.bool false) rfl (by kernel_rfl) (by kernel_rfl) (by kernel_rfl) (fun _ _ _ h=>h) (Or.inl ⟨by rfl,fun wx _=>by go_simp⟩) (by assumption) ?_;simp only[Act.put,setIfInBounds_toArray,set_cons_zero,set_cons_succ];refine wpAnyH_done (by kernel_rfl) ?_ _;refine NoPanic.normal ?_;go_wp2
      go_ret2
      exact zpO HV.out HLy.out HE.out HJ.out
    .have HV:=hid hv;have HLT:=hid hlt;clear hv hlt
     go_wp2_with(first
      | (go_at_call 44;(with_reducible refine(zyk H5.out HLT.out).mono ?_);rintro e w4 ⟨er,hne,rfl,hr⟩;have H6:=hid hr;have NE:=hid hne;have NB:(er != 0)=true:=bne_iff_ne.2 hne;clear hr hne)
      | (go_at_call 45;(with_reducible refine(zkW H6.out.at_ NE.out).mono ?_);rintro e w5 ⟨rfl,rfl⟩))
     go_ret2
     exact zfV HV.out H6.out.gr
    .have HV:=hid hv;have HGT:=hid hgt;clear hv hgt
     go_wp2_with(first
      | (go_at_call 44;(with_reducible refine(zyl H5.out HGT.out).mono ?_);rintro e w4 ⟨p4,c4,rfl,hr⟩;have H6:=hid hr;clear hr)
      | (go_at_call 45;(with_reducible refine(zrK H6.out.at_ (zrO HGT.out)).mono ?_);rintro e w5 ⟨rfl,rfl⟩))
     go_ret2
     exact zfV HV.out H6.out.gr
   | succ k=>
    have hjm:(j:Int)<(Rs.length:Int):=by omega
    have hw64:RowKit.wrap64 ((j:Int)+1)=(j:Int)+1:=by unfold RowKit.wrap64;have:=H.out.few;omega
    obtain⟨R,hR⟩:∃R,Rs[j]?=some R:=⟨_,List.getElem?_eq_getElem (by omega)⟩
    have hmem:=List.mem_of_getElem? hR;have hacc:=hid (H.out.acc R hmem);by_cases hk:j<kb
    .have h5:=H4.out;rw[znY hk hR]at h5;have H5:=hid h5;have hb:=hid (Jp (m:=N) (H.out.zwu R (List.mem_of_getElem? (i:=j) (by rw[getElem?_take,if_pos hk];exact hR))) NB.out (Left Rs kb rest (j+1)));have hhist:=hid (H.out.hist j R hR);obtain⟨M,hM⟩:∃M,R.qi.bytes.length=M:=⟨_,rfl⟩
     have HM:=hid hM;clear h5 hM
     go_wp2_with(first
      | (go_at_call 43;(with_reducible refine(zu8 H5.out NB.out hb.out HM.out).mono ?_);rintro e w4 ⟨p4,c4,rfl,hi,hr⟩;have HI4:=hid hi;have H6:=hid hr;clear hi hr)
      | (go_at_call 42;(with_reducible refine(zzJ H6.out HI4.out HM.out hacc.out.good hacc.out.day).mono ?_);rintro e w5 ⟨p1,n1,c1,p2,n2,c2,rfl,hr,hu,hd⟩;have H7:=hid hr;have HU:=hid hu;have HD:=hid hd;clear hr hu hd)
      | (go_at_call 12;(with_reducible refine(zA2 TK.out (H7.out.grown (zE _ _)) few8.out HE.out hacc.out.ok hhist.out ((qy.qt (zE _ _)).atS HU.out) ((qy.qt (zE _ _)).atS HD.out)).mono ?_);rintro e w6 ⟨a6,z1,z2,rfl,hr⟩;have H8:=hid hr;clear hr))
     go_roundg k
     case measure=>omega
     case rel=>exact⟨j+1,a6,es++[(nr R,z1,z2)],by omega,by omega,(by rw[hw64];rfl),rfl,zpo HE.out hR,H8.out⟩
    .have hk2:RowKit.Hid (j=kb):=hid (by omega);have h5:=H4.out;rw[hk2.out,zio]at h5;have H5:=hid h5;have hbn:=hid (H.out.cut (by omega));clear h5
     go_wp2_with(first
      | (go_at_call 43;(with_reducible refine(zr6 H5.out NB.out hbn.out.1).mono ?_);rintro e w4 ⟨er,hne,rfl,hr⟩;have H6:=hid hr;clear hr hne)
      | (go_at_call 42;(with_reducible refine(zxp H6.out).mono ?_);rintro e w5 ⟨rfl,hr⟩;have H7:=hid hr;clear hr)
      | (go_at_call 12;(with_reducible refine(zxx (H7.out.grown (zE _ _)) few8.out).mono ?_);rintro e w6 ⟨rfl,hr⟩;have H8:=hid hr;clear hr))
     go_ret2
     exact zfV hbn.out.2 H8.out.gr
end RD
end
end Go.AEv
