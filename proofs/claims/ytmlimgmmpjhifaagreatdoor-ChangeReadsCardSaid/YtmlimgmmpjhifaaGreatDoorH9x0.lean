/- A change is read from any bytes. Conditions: the bytes lie in memory. -/
import Derived.Test.YtmlimgmmpjhifaaGreatDoorL9a
set_option maxHeartbeats 8000000
set_option maxRecDepth 100000
set_option linter.all false
namespace Go.AEv
section
open Go Go.Proofs TR
open Go.AuditPlain (put putBytes putFlag)
namespace MK
open Go.AEv.GT (RwAt NewAt)
open RD (Only At AtU UP In S stU stB stF)
def ReadP (w:World) (M:List Nat) (e:Ending) (w2:World):Prop:=((∃ c:Pc,Nrm c∧1≤c.k∧M=enc c∧e = .returned (.tuple #[.agg c.cells.toArray,.int .i64 0]))∨e = .returned (.tuple #[.agg zeroC.toArray,.int .i64 6]))∧Grown w w2
theorem can_next {M out l:List Nat}{s s':S} (h:s.2=true→M=out++s.1) (h2:s'.2=true→s.2=true∧s.1=l++s'.1):s'.2=true→M=(out++l)++s'.1:=fun hs=>by
 obtain ⟨a,b⟩:=h2 hs
 rw [h a,b,List.append_assoc]
theorem seg_t {b:Bool}{l:List Nat} (h:b=true):seg b l=l:=by subst h;rfl
theorem seg_f {b:Bool}{l:List Nat} (h:b=false):seg b l=[]:=by subst h;rfl
theorem one_zero:∀ v∈zeroC,v.oneCell'=true:=by
 intro v hv
 simp at hv
 rcases hv with rfl | rfl | rfl | rfl<;>rfl
theorem numb_at {w:World}{b g:Nat}{s s':S} (h:AtU w b g s) {i:Int}{m v:Nat} (hi:i=(m:Int)) (hb:m≤9000000000000000000) (hr:stU m s=(v,s')):Calls Tryz.prog 30 #[.pointer (some ⟨b,0,none⟩),.int .i64 i] w (UP w b g s' (.int .i64 (v:Nat))):=by
 subst hi
 exact RD.numb_u h hb hr
theorem str_at {w:World}{b g:Nat}{s s':S} (h:AtU w b g s) {i:Int}{m:Nat}{v:List Nat} (hi:i=(m:Int)) (hb:m≤1000000) (hr:stB m s=(v,s')):Calls Tryz.prog 33 #[.pointer (some ⟨b,0,none⟩),.int .i64 i] w (UP w b g s' (.string (str v))):=by
 subst hi
 exact RD.str_u h hb hr
def RJ (w:World) (b g b5 b6:Nat) (M:List Nat) (k n:Nat) (i:Value) (wx:World):Prop:=∃ (j:Nat) (c:Pc) (s:S),j+n=6∧i = .int .i64 j∧RS w wx b g b5 b6 M (outJ c j) s c∧c.k=k
theorem read_call {w:World}{p:Option Addr}{c0:Nat}{M:List Nat} (hM:In w p M) (hlen:M.length≤100000):Calls Tryz.prog 7 #[.slice p M.length c0] w (ReadP w M):=by
 have gz:=grown_alloc w (.cells #[.int .u8 0,.int .i64 0,.int .i64 0,.int .i64 0,.int .i64 0,.int .i64 0,.int .i64 0,.string ⟨#[]⟩,.string ⟨#[]⟩,.string ⟨#[]⟩,.string ⟨#[]⟩,.bool false] 34)
 have HM:=Lib.hid (show In (w.alloc (.cells #[.int .u8 0,.int .i64 0,.int .i64 0,.int .i64 0,.int .i64 0,.int .i64 0,.int .i64 0,.string ⟨#[]⟩,.string ⟨#[]⟩,.string ⟨#[]⟩,.string ⟨#[]⟩,.bool false] 34)) p M from ⟨hM.1,fun h=>by obtain ⟨b,o,e,hc⟩:=hM.2 h;exact ⟨b,o,e,fun i x hx=>RD.cell_grown (hc i x hx) gz⟩⟩)
 have HL:=Lib.hid hM.1
 obtain ⟨k,s1,hs1⟩:∃ k s1,stU 18 (M,true)=(k,s1):=⟨_,_,rfl⟩
 obtain ⟨k18,hcan1,hlt1⟩:=stU_can hs1 hM.1
 have HS1:=Lib.hid hs1
 have HC1:=Lib.hid hcan1
 have HT1:=Lib.hid hlt1
 clear hM gz hs1 hcan1 hlt1
 go_enter Tryz.func7,Tryz.ntmps7
 go_upto_region 4 with (first
  | (go_at_call 29;(with_reducible refine (new29_call HM.out hlen (by rw [alloc_size];omega)).mono ?_);rintro e w2 ⟨b,g,rfl,hat,g2,hb1,hb2,hb3⟩;have A2:=Lib.hid hat;have G2:=Lib.hid g2;rw [alloc_size]at hb1;clear hat g2)
  | (go_at_call 30;(with_reducible refine (numb_at A2.out (i:=18) (m:=18) rfl (by decide) HS1.out).mono ?_);rintro e w3 ⟨rfl,hat3,ho3⟩;have A3:=Lib.hid hat3;have O3:=Lib.hid ho3;clear hat3 ho3)
  | (go_at_call 31;(with_reducible refine (uses31_call (k:=k) (by omega)).mono ?_);rintro e w4 ⟨rfl,g4⟩;have G4:=Lib.hid g4;clear g4))
 have GX:=Lib.hid (((grown_alloc w3 (.cells #[.int .u8 (k:Nat),.int .i64 0,.int .i64 0,.int .i64 0,.int .i64 0,.int .i64 0,.int .i64 0,.string ⟨#[]⟩,.string ⟨#[]⟩,.string ⟨#[]⟩,.string ⟨#[]⟩,.bool false] 34)).trans' G4.out).trans' (grown_alloc w4 (.cells #[.bool (useB k 0),.bool (useB k 1),.bool (useB k 2),.bool (useB k 3),.bool (useB k 4),.bool (useB k 5),.bool (useB k 6),.bool (useB k 7),.bool (useB k 8)] 78)))
 have S0:RowKit.Hid (RS w (w4.alloc (.cells #[.bool (useB k 0),.bool (useB k 1),.bool (useB k 2),.bool (useB k 3),.bool (useB k 4),.bool (useB k 5),.bool (useB k 6),.bool (useB k 7),.bool (useB k 8)] 78)) b g w3.heap.size w4.heap.size M (put k) s1 ⟨k,0,0,0,0,0,0,[],[],[],[],false⟩):=Lib.hid ⟨(grown_onlyN ((grown_alloc w _).trans' G2.out) O3.out (by omega)).trans' GX.out,AtU.grown A3.out GX.out,grown_row GX.out (row_only (grown_row G2.out (rowU_box w)) O3.out (by show w.heap.size≠b;omega)),grown_row (G4.out.trans' (grown_alloc _ _)) (rowU_box w3),rowU_box w4,by omega,hb2,Nat.lt_of_lt_of_le hb3 O3.out.size,by have:=G4.out.size;rw [alloc_size]at this;omega,fun h=>(HC1.out h).2,HT1.out,⟨k18,⟨Nat.zero_le _,fun _=>rfl⟩,⟨Nat.zero_le _,fun _=>rfl⟩,⟨Nat.zero_le _,fun _=>rfl⟩,⟨Nat.zero_le _,fun _=>rfl⟩,⟨Nat.zero_le _,fun _=>rfl⟩,⟨Nat.zero_le _,fun _=>rfl⟩,⟨Nat.zero_le _,fun _=>rfl⟩,⟨Nat.zero_le _,fun _=>rfl⟩,⟨Nat.zero_le _,fun _=>rfl⟩,⟨Nat.zero_le _,fun _=>rfl⟩,fun _=>rfl⟩⟩
 obtain ⟨b5,hb5⟩:∃ b5,b5=w3.heap.size:=⟨_,rfl⟩
 obtain ⟨b6,hb6⟩:∃ b6,b6=w4.heap.size:=⟨_,rfl⟩
 obtain ⟨W5,hW5⟩:∃ W5,W5=w4.alloc (.cells #[.bool (useB k 0),.bool (useB k 1),.bool (useB k 2),.bool (useB k 3),.bool (useB k 4),.bool (useB k 5),.bool (useB k 6),.bool (useB k 7),.bool (useB k 8)] 78):=⟨_,rfl⟩
 rw [← hb5,← hb6,← hW5]at S0
 rw [← hb5,← hb6,← hW5]
 clear hb5 hb6 hW5 GX HM HC1 HT1 HS1 A3 O3 A2 G2 G4
 go_cut [18,19] from 7 to 65 (fun s18 s19 wx=>s18=ptrs b5∧s19 = .int .i64 0∧RS w wx b g b5 b6 M (put k) s1 ⟨k,0,0,0,0,0,0,[],[],[],[],false⟩)
 case first=>
  go_wp2_with (first
   | (go_at_call 32;(with_reducible refine (nums32_call S0.out.x).mono ?_);rintro e w6 ⟨rfl,g6⟩;have S1:=Lib.hid (S0.out.grown g6);clear g6))
  go_meet
  case rel=>exact ⟨rfl,rfl,S1.out⟩
 case rest=>
  obtain ⟨rfl,rfl,hst⟩:=hcut
  have S2:=Lib.hid hst
  clear hst S0
  go_wp2_with fail
  go_loopg [19] 6 (fun n i wx=>RJ w b g b5 b6 M k n i wx)
  case atStart=>exact ⟨0,⟨k,0,0,0,0,0,0,[],[],[],[],false⟩,s1,rfl,rfl,S2.out,rfl⟩
  case round=>
   obtain ⟨j,c,s,hj,hi,hst,hck⟩:=hrel
   have SJ:=Lib.hid hst
   have HCK:=Lib.hid hck
   clear hst S2 hck
   cases gk with
   | succ n=>
    have f0:=(rowU_cellF (k:=0) SJ.out.f rfl).1
    have hj6:j=0∨j=1∨j=2∨j=3∨j=4∨j=5:=by omega
    obtain ⟨v,s',hs⟩:∃ v s',stU 1000000 s=(v,s'):=⟨_,_,rfl⟩
    obtain ⟨hvm,hcan,hlt⟩:=stU_can hs SJ.out.lt
    have HS:=Lib.hid hs
    have HCN:=Lib.hid hcan
    have HLT:=Lib.hid hlt
    clear hs hcan hlt
    rcases hj6 with rfl | rfl | rfl | rfl | rfl | rfl
    ·have hi':_=Value.int .i64 0:=hi
     subst hi'
     have fj:=(rowU_cellF (k:=0) SJ.out.f rfl).1
     have hp:=fun w1=>(ptr_at b5 w1).1
     go_wp2_with (first
      | (go_at_call 30;(with_reducible refine (numb_at SJ.out.at_ (i:=1000000) (m:=1000000) rfl (by decide) HS.out).mono ?_);rintro e w7 hup;have UPH:=Lib.hid hup;have S7:=Lib.hid (SJ.out.next hup (can_next SJ.out.can HCN.out) HLT.out);obtain ⟨rfl,_,_⟩:=hup;obtain ⟨xj,yj⟩:=rowU_cellF (k:=1) S7.out.x rfl))
     ·have hu:useB c.k 0=true:=‹useB c.k 0=true›
      go_roundg n
      case measure=>omega
      case rel=>exact ⟨1,{ c with n0:=v },s',by omega,rfl,S7.out.put (c':={ c with n0:=v }) (rowU_setk S7.out.x (k:=1) (show 1<12 by omega)) rfl (by show outJ c 0++seg (useB c.k 0) (put v)=_;rw [seg_t hu]) { S7.out.nrm with n0:=⟨hvm,fun h=>by have h:useB c.k 0=false:=h;rw [hu]at h;cases h⟩ },HCK.out⟩
     ·have hu:useB c.k 0=false:=‹useB c.k 0=false›
      have ho:outJ c (0+1)=outJ c 0:=by show outJ c 0++seg (useB c.k 0) _=_;rw [seg_f hu];exact List.append_nil _
      go_roundg n
      case measure=>omega
      case rel=>exact ⟨1,c,s,by omega,rfl,(by rw [ho];exact SJ.out),HCK.out⟩
    ·have hi':_=Value.int .i64 1:=hi
     subst hi'
     have fj:=(rowU_cellF (k:=1) SJ.out.f rfl).1
     have hp:=fun w1=>(ptr_at b5 w1).2.1
     go_wp2_with (first
      | (go_at_call 30;(with_reducible refine (numb_at SJ.out.at_ (i:=1000000) (m:=1000000) rfl (by decide) HS.out).mono ?_);rintro e w7 hup;have UPH:=Lib.hid hup;have S7:=Lib.hid (SJ.out.next hup (can_next SJ.out.can HCN.out) HLT.out);obtain ⟨rfl,_,_⟩:=hup;obtain ⟨xj,yj⟩:=rowU_cellF (k:=2) S7.out.x rfl))
     ·have hu:useB c.k 1=true:=‹useB c.k 1=true›
      go_roundg n
      case measure=>omega
      case rel=>exact ⟨2,{ c with n1:=v },s',by omega,rfl,S7.out.put (c':={ c with n1:=v }) (rowU_setk S7.out.x (k:=2) (show 2<12 by omega)) rfl (by show outJ c 1++seg (useB c.k 1) (put v)=_;rw [seg_t hu]) { S7.out.nrm with n1:=⟨hvm,fun h=>by have h:useB c.k 1=false:=h;rw [hu]at h;cases h⟩ },HCK.out⟩
     ·have hu:useB c.k 1=false:=‹useB c.k 1=false›
      have ho:outJ c (1+1)=outJ c 1:=by show outJ c 1++seg (useB c.k 1) _=_;rw [seg_f hu];exact List.append_nil _
      go_roundg n
      case measure=>omega
      case rel=>exact ⟨2,c,s,by omega,rfl,(by rw [ho];exact SJ.out),HCK.out⟩
    ·have hi':_=Value.int .i64 2:=hi
     subst hi'
     have fj:=(rowU_cellF (k:=2) SJ.out.f rfl).1
     have hp:=fun w1=>(ptr_at b5 w1).2.2.1
     go_wp2_with (first
      | (go_at_call 30;(with_reducible refine (numb_at SJ.out.at_ (i:=1000000) (m:=1000000) rfl (by decide) HS.out).mono ?_);rintro e w7 hup;have UPH:=Lib.hid hup;have S7:=Lib.hid (SJ.out.next hup (can_next SJ.out.can HCN.out) HLT.out);obtain ⟨rfl,_,_⟩:=hup;obtain ⟨xj,yj⟩:=rowU_cellF (k:=3) S7.out.x rfl))
     ·have hu:useB c.k 2=true:=‹useB c.k 2=true›
      go_roundg n
      case measure=>omega
      case rel=>exact ⟨3,{ c with n2:=v },s',by omega,rfl,S7.out.put (c':={ c with n2:=v }) (rowU_setk S7.out.x (k:=3) (show 3<12 by omega)) rfl (by show outJ c 2++seg (useB c.k 2) (put v)=_;rw [seg_t hu]) { S7.out.nrm with n2:=⟨hvm,fun h=>by have h:useB c.k 2=false:=h;rw [hu]at h;cases h⟩ },HCK.out⟩
     ·have hu:useB c.k 2=false:=‹useB c.k 2=false›
      have ho:outJ c (2+1)=outJ c 2:=by show outJ c 2++seg (useB c.k 2) _=_;rw [seg_f hu];exact List.append_nil _
      go_roundg n
      case measure=>omega
      case rel=>exact ⟨3,c,s,by omega,rfl,(by rw [ho];exact SJ.out),HCK.out⟩
    ·have hi':_=Value.int .i64 3:=hi
     subst hi'
     have fj:=(rowU_cellF (k:=3) SJ.out.f rfl).1
     have hp:=fun w1=>(ptr_at b5 w1).2.2.2.1
     go_wp2_with (first
      | (go_at_call 30;(with_reducible refine (numb_at SJ.out.at_ (i:=1000000) (m:=1000000) rfl (by decide) HS.out).mono ?_);rintro e w7 hup;have UPH:=Lib.hid hup;have S7:=Lib.hid (SJ.out.next hup (can_next SJ.out.can HCN.out) HLT.out);obtain ⟨rfl,_,_⟩:=hup;obtain ⟨xj,yj⟩:=rowU_cellF (k:=4) S7.out.x rfl))
     ·have hu:useB c.k 3=true:=‹useB c.k 3=true›
      go_roundg n
      case measure=>omega
      case rel=>exact ⟨4,{ c with n3:=v },s',by omega,rfl,S7.out.put (c':={ c with n3:=v }) (rowU_setk S7.out.x (k:=4) (show 4<12 by omega)) rfl (by show outJ c 3++seg (useB c.k 3) (put v)=_;rw [seg_t hu]) { S7.out.nrm with n3:=⟨hvm,fun h=>by have h:useB c.k 3=false:=h;rw [hu]at h;cases h⟩ },HCK.out⟩
     ·have hu:useB c.k 3=false:=‹useB c.k 3=false›
      have ho:outJ c (3+1)=outJ c 3:=by show outJ c 3++seg (useB c.k 3) _=_;rw [seg_f hu];exact List.append_nil _
      go_roundg n
      case measure=>omega
      case rel=>exact ⟨4,c,s,by omega,rfl,(by rw [ho];exact SJ.out),HCK.out⟩
    ·have hi':_=Value.int .i64 4:=hi
     subst hi'
     have fj:=(rowU_cellF (k:=4) SJ.out.f rfl).1
     have hp:=fun w1=>(ptr_at b5 w1).2.2.2.2.1
     go_wp2_with (first
      | (go_at_call 30;(with_reducible refine (numb_at SJ.out.at_ (i:=1000000) (m:=1000000) rfl (by decide) HS.out).mono ?_);rintro e w7 hup;have UPH:=Lib.hid hup;have S7:=Lib.hid (SJ.out.next hup (can_next SJ.out.can HCN.out) HLT.out);obtain ⟨rfl,_,_⟩:=hup;obtain ⟨xj,yj⟩:=rowU_cellF (k:=5) S7.out.x rfl))
     ·have hu:useB c.k 4=true:=‹useB c.k 4=true›
      go_roundg n
      case measure=>omega
      case rel=>exact ⟨5,{ c with n4:=v },s',by omega,rfl,S7.out.put (c':={ c with n4:=v }) (rowU_setk S7.out.x (k:=5) (show 5<12 by omega)) rfl (by show outJ c 4++seg (useB c.k 4) (put v)=_;rw [seg_t hu]) { S7.out.nrm with n4:=⟨hvm,fun h=>by have h:useB c.k 4=false:=h;rw [hu]at h;cases h⟩ },HCK.out⟩
     ·have hu:useB c.k 4=false:=‹useB c.k 4=false›
      have ho:outJ c (4+1)=outJ c 4:=by show outJ c 4++seg (useB c.k 4) _=_;rw [seg_f hu];exact List.append_nil _
      go_roundg n
      case measure=>omega
      case rel=>exact ⟨5,c,s,by omega,rfl,(by rw [ho];exact SJ.out),HCK.out⟩
    ·have hi':_=Value.int .i64 5:=hi
     subst hi'
     have fj:=(rowU_cellF (k:=5) SJ.out.f rfl).1
     have hp:=fun w1=>(ptr_at b5 w1).2.2.2.2.2
     go_wp2_with (first
      | (go_at_call 30;(with_reducible refine (numb_at SJ.out.at_ (i:=1000000) (m:=1000000) rfl (by decide) HS.out).mono ?_);rintro e w7 hup;have UPH:=Lib.hid hup;have S7:=Lib.hid (SJ.out.next hup (can_next SJ.out.can HCN.out) HLT.out);obtain ⟨rfl,_,_⟩:=hup;obtain ⟨xj,yj⟩:=rowU_cellF (k:=6) S7.out.x rfl))
     ·have hu:useB c.k 5=true:=‹useB c.k 5=true›
      go_roundg n
      case measure=>omega
      case rel=>exact ⟨6,{ c with n5:=v },s',by omega,rfl,S7.out.put (c':={ c with n5:=v }) (rowU_setk S7.out.x (k:=6) (show 6<12 by omega)) rfl (by show outJ c 5++seg (useB c.k 5) (put v)=_;rw [seg_t hu]) { S7.out.nrm with n5:=⟨hvm,fun h=>by have h:useB c.k 5=false:=h;rw [hu]at h;cases h⟩ },HCK.out⟩
     ·have hu:useB c.k 5=false:=‹useB c.k 5=false›
      have ho:outJ c (5+1)=outJ c 5:=by show outJ c 5++seg (useB c.k 5) _=_;rw [seg_f hu];exact List.append_nil _
      go_roundg n
      case measure=>omega
      case rel=>exact ⟨6,c,s,by omega,rfl,(by rw [ho];exact SJ.out),HCK.out⟩
   | zero=>
    obtain rfl:j=6:=by omega
    have hi':_=Value.int .i64 6:=hi
    subst hi'
    have f0:=(rowU_cellF (k:=0) SJ.out.f rfl).1
    have f6:=(rowU_cellF (k:=6) SJ.out.f rfl).1
    go_upto_if 33 with fail
    go_cut [] from 7 to 65 (fun wx=>∃ (c:Pc) (s:S),RS w wx b g b5 b6 M (outJ c 6++seg (useB c.k 6) (putBytes c.nm)) s c∧c.k=k)
    case first=>
     obtain ⟨v,s',hs⟩:∃ v s',stB 12 s=(v,s'):=⟨_,_,rfl⟩
     obtain ⟨hvm,hcan,hlt⟩:=stB_can hs SJ.out.lt
     have HS:=Lib.hid hs
     have HCN:=Lib.hid hcan
     have HLT:=Lib.hid hlt
     clear hs hcan hlt
     go_wp2_with (first
      | (go_at_call 33;(with_reducible refine (str_at SJ.out.at_ (i:=12) (m:=12) rfl (by decide) HS.out).mono ?_);rintro e w7 hup;have S7:=Lib.hid (SJ.out.next hup (can_next SJ.out.can HCN.out) HLT.out);obtain ⟨rfl,_,_⟩:=hup;obtain ⟨xj,yj⟩:=rowU_cellF (k:=7) S7.out.x rfl;have x0:=(rowU_cellF (k:=0) S7.out.x rfl).1))
     ·have hu:useB c.k 6=true:=‹useB c.k 6=true›
      go_meet
      case rel=>exact ⟨{ c with nm:=v },s',S7.out.put (c':={ c with nm:=v }) (rowU_setk S7.out.x (k:=7) (show 7<12 by omega)) rfl (by show outJ c 6++seg (useB c.k 6) (putBytes v)=_;rw [seg_t hu]) { S7.out.nrm with nm:=⟨hvm,fun h=>by have h:useB c.k 6=false:=h;rw [hu]at h;cases h⟩ },HCK.out⟩
     ·have hu:useB c.k 6=false:=‹useB c.k 6=false›
      go_meet
      case rel=>exact ⟨c,s,(by rw [seg_f hu,List.append_nil];exact SJ.out),HCK.out⟩
    case rest=>
     obtain ⟨ca,sa,hst,hcka⟩:=hcut
     have SA:=Lib.hid hst
     have HKA:=Lib.hid hcka
     clear hst hcka SJ HCK f0 f6
     have f0:=(rowU_cellF (k:=0) SA.out.f rfl).1
     have f7:=(rowU_cellF (k:=7) SA.out.f rfl).1
     go_upto_if 38 with fail
     go_cut [] from 7 to 65 (fun wx=>∃ (c:Pc) (s:S),RS w wx b g b5 b6 M (outJ c 6++seg (useB c.k 6) (putBytes c.nm)++seg (useB c.k 7) (putBytes c.tx)) s c∧c.k=k)
     case first=>
      obtain ⟨v,s',hs⟩:∃ v s',stB 8000 sa=(v,s'):=⟨_,_,rfl⟩
      obtain ⟨hvm,hcan,hlt⟩:=stB_can hs SA.out.lt
      have HS:=Lib.hid hs
      have HCN:=Lib.hid hcan
      have HLT:=Lib.hid hlt
      clear hs hcan hlt
      go_wp2_with (first
       | (go_at_call 33;(with_reducible refine (str_at SA.out.at_ (i:=8000) (m:=8000) rfl (by decide) HS.out).mono ?_);rintro e w7 hup;have S7:=Lib.hid (SA.out.next hup (can_next SA.out.can HCN.out) HLT.out);obtain ⟨rfl,_,_⟩:=hup;obtain ⟨xj,yj⟩:=rowU_cellF (k:=8) S7.out.x rfl;have x0:=(rowU_cellF (k:=0) S7.out.x rfl).1))
      ·have hu:useB ca.k 7=true:=‹useB ca.k 7=true›
       go_meet
       case rel=>exact ⟨{ ca with tx:=v },s',S7.out.put (c':={ ca with tx:=v }) (rowU_setk S7.out.x (k:=8) (show 8<12 by omega)) rfl (by show outJ ca 6++seg (useB ca.k 6) (putBytes ca.nm)++seg (useB ca.k 7) (putBytes v)=_;rw [seg_t hu]) { S7.out.nrm with tx:=⟨hvm,fun h=>by have h:useB ca.k 7=false:=h;rw [hu]at h;cases h⟩ },HKA.out⟩
      ·have hu:useB ca.k 7=false:=‹useB ca.k 7=false›
       go_meet
       case rel=>exact ⟨ca,sa,(by rw [seg_f hu,List.append_nil];exact SA.out),HKA.out⟩
     case rest=>
      obtain ⟨cb,sb,hst,hckb⟩:=hcut
      have SB:=Lib.hid hst
      have HKB:=Lib.hid hckb
      clear hst hckb SA HKA f0 f7
      have f0:=(rowU_cellF (k:=0) SB.out.f rfl).1
      have f8:=(rowU_cellF (k:=8) SB.out.f rfl).1
      go_upto_if 43 with fail
      go_cut [] from 7 to 65 (fun wx=>∃ (c:Pc) (s:S),RS w wx b g b5 b6 M (enc c) s c∧c.k=k)
      case first=>
       obtain ⟨v1,t1,hs1⟩:∃ v s',stB 12 sb=(v,s'):=⟨_,_,rfl⟩
       obtain ⟨hvm1,hcan1,hlt1⟩:=stB_can hs1 SB.out.lt
       obtain ⟨v2,t2,hs2⟩:∃ v s',stB 104 t1=(v,s'):=⟨_,_,rfl⟩
       obtain ⟨hvm2,hcan2,hlt2⟩:=stB_can hs2 hlt1
       obtain ⟨v3,t3,hs3⟩:∃ v s',stF t2=(v,s'):=⟨_,_,rfl⟩
       obtain ⟨hcan3,hlt3⟩:=stF_can hs3 hlt2
       have HS1:=Lib.hid hs1
       have HS2:=Lib.hid hs2
       have HS3:=Lib.hid hs3
       have HCN:=Lib.hid (And.intro hcan1 (And.intro hcan2 hcan3))
       have HLT:=Lib.hid (And.intro hlt1 (And.intro hlt2 hlt3))
       clear hs1 hs2 hs3 hcan1 hcan2 hcan3 hlt1 hlt2 hlt3
       by_cases hu:useB cb.k 8=true
       ·have hnf:∀ {P:Prop},useB cb.k 8=false→P:=fun h=>by rw [hu]at h;cases h
        go_wp2_with (first
         | (go_at_call 33;(with_reducible refine (str_at SB.out.at_ (i:=12) (m:=12) rfl (by decide) HS1.out).mono ?_);rintro e w7 hup;have S7:=Lib.hid (SB.out.next hup (can_next SB.out.can HCN.out.1) HLT.out.1);obtain ⟨rfl,_,_⟩:=hup;obtain ⟨x9,y9⟩:=rowU_cellF (k:=9) S7.out.x rfl;have x0:=(rowU_cellF (k:=0) S7.out.x rfl).1;have S7':=Lib.hid (S7.out.put (c':={ cb with ac:=v1 }) (rowU_setk S7.out.x (k:=9) (show 9<12 by omega)) rfl rfl { S7.out.nrm with ac:=⟨hvm1,fun h=>hnf h⟩ }))
         | (go_at_call 33;(with_reducible refine (str_at S7'.out.at_ (i:=104) (m:=104) rfl (by decide) HS2.out).mono ?_);rintro e w8 hup;have S8:=Lib.hid (S7'.out.next hup (can_next S7'.out.can HCN.out.2.1) HLT.out.2.1);obtain ⟨rfl,_,_⟩:=hup;clear x0 x9 y9;obtain ⟨x10,y10⟩:=rowU_cellF (k:=10) S8.out.x rfl;have x9:=(rowU_cellF (k:=9) S8.out.x rfl).1;have x0:=(rowU_cellF (k:=0) S8.out.x rfl).1;have S8':=Lib.hid (S8.out.put (c':={ cb with ac:=v1,pa:=v2 }) (rowU_setk S8.out.x (k:=10) (show 10<12 by omega)) rfl rfl { S8.out.nrm with pa:=⟨hvm2,fun h=>hnf h⟩ }))
         | (go_at_call 34;(with_reducible refine (RD.flag_u S8'.out.at_ HS3.out).mono ?_);rintro e w9 hup;have S9:=Lib.hid (S8'.out.next hup (can_next S8'.out.can HCN.out.2.2) HLT.out.2.2);obtain ⟨rfl,_,_⟩:=hup;clear x0 x10 y10 x9;obtain ⟨x11,y11⟩:=rowU_cellF (k:=11) S9.out.x rfl;have x9:=(rowU_cellF (k:=9) S9.out.x rfl).1;have x0:=(rowU_cellF (k:=0) S9.out.x rfl).1))
        ·go_meet
         case rel=>exact ⟨{ cb with ac:=v1,pa:=v2,dp:=v3 },t3,S9.out.put (c':={ cb with ac:=v1,pa:=v2,dp:=v3 }) (rowU_setk S9.out.x (k:=11) (show 11<12 by omega)) rfl (by show outJ cb 6++seg (useB cb.k 6) (putBytes cb.nm)++seg (useB cb.k 7) (putBytes cb.tx)++seg (useB cb.k 8) (putBytes v1++putBytes v2++putFlag v3)=_;rw [seg_t hu];simp only [List.append_assoc]) { S9.out.nrm with dp:=fun h=>hnf h },HKB.out⟩
        ·exact hnf ‹useB cb.k 8=false›
       ·have hu:useB cb.k 8=false:=by simpa using hu
        go_wp2_with fail
        go_meet
        case rel=>exact ⟨cb,sb,(by unfold enc;rw [seg_f hu,List.append_nil];exact SB.out),HKB.out⟩
      case rest=>
       obtain ⟨cd,sd,hst,hckd⟩:=hcut
       have SD:=Lib.hid hst
       have HKD:=Lib.hid hckd
       clear hst hckd SB HKB f0 f8
       obtain ⟨x0,x1,x2,x3,x4,x5,x6,x7,x8,x9,x10,x11⟩:=row12 SD.out.x
       by_cases he:(sd.2&&sd.1.isEmpty)=true
       ·have hsd:sd.2=true∧sd.1=[]:=by
         rw [Bool.and_eq_true]at he
         exact ⟨he.1,List.isEmpty_iff.1 he.2⟩
        have hM:M=enc cd:=by have:=SD.out.can hsd.1;rw [hsd.2,List.append_nil]at this;exact this
        have HMM:=Lib.hid hM
        have HEE:=Lib.hid he
        clear he hM hsd
        by_cases hk1:1≤cd.k
        ·go_wp2_with (first
          | (go_at_call 35;(with_reducible refine (end_u SD.out.at_).mono ?_);rintro e w7 ⟨er,rfl,hz,rfl⟩;obtain rfl:er=0:=(by have:=hz.trans HEE.out;simpa using this))
          | (go_at_call 15;(with_reducible refine (check_ok SD.out.nrm hk1).mono ?_);rintro e w8 ⟨rfl,g8⟩;have SE:=Lib.hid (SD.out.grown g8);clear g8 x0 x1 x2 x3 x4 x5 x6 x7 x8 x9 x10 x11;obtain ⟨x0,x1,x2,x3,x4,x5,x6,x7,x8,x9,x10,x11⟩:=row12 SE.out.x)
          | (refine wp_storeW _ _ info34 SE.out.z rfl rfl (cs:=Pc.cells cd) (one12p _) rfl rfl rfl rfl ?_;intro w9 k1 k2;have R9:=Lib.hid k1;have O9:=Lib.hid k2;clear k1 k2))
         refine bodyPost_ret (results_cell_tmp_mid (p:=2) (ty:=34) rfl _ _ w.heap.size _ _ rfl (row_range R9.out) under34 rfl info34) rfl ?_
         exact ⟨.inl ⟨cd,SE.out.nrm,hk1,HMM.out,rfl⟩,grown_onlyN SE.out.gr O9.out (Nat.le_refl _)⟩
        ·have hk0:cd.k=0:=by omega
         have HK0:=Lib.hid hk0
         clear hk0 hk1
         go_wp2_with (first
          | (go_at_call 35;(with_reducible refine (end_u SD.out.at_).mono ?_);rintro e w7 ⟨er,rfl,hz,rfl⟩;obtain rfl:er=0:=(by have:=hz.trans HEE.out;simpa using this))
          | (go_at_call 15;(with_reducible refine (check_zero HK0.out).mono ?_);rintro e w8 ⟨rfl,g8⟩;have SE:=Lib.hid (SD.out.grown g8);clear g8)
          | (refine wp_storeW _ _ info34 SE.out.z rfl rfl (cs:=zeroC) one_zero rfl rfl rfl rfl ?_;intro w9 k1 k2;have R9:=Lib.hid k1;have O9:=Lib.hid k2;clear k1 k2))
         refine bodyPost_ret (results_cell_tmp_mid (p:=2) (ty:=34) rfl _ _ w.heap.size _ _ rfl (row_range R9.out) under34 rfl info34) rfl ?_
         exact ⟨.inr rfl,grown_onlyN SE.out.gr O9.out (Nat.le_refl _)⟩
       ·have he':(sd.2&&sd.1.isEmpty)=false:=by simpa using he
        have HEE:=Lib.hid he'
        clear he he'
        go_wp2_with (first
         | (go_at_call 35;(with_reducible refine (end_u SD.out.at_).mono ?_);rintro e w7 ⟨er,rfl,hz,rfl⟩;have hne:(er==0)=false:=hz.trans HEE.out;have hne2:¬ er=0:=beq_eq_false_iff_ne.1 hne;clear hz)
         | (refine wp_storeW _ _ info34 SD.out.z rfl rfl (cs:=zeroC) one_zero rfl rfl rfl rfl ?_;intro w9 k1 k2;have R9:=Lib.hid k1;have O9:=Lib.hid k2;clear k1 k2))
        refine bodyPost_ret (results_cell_tmp_mid (p:=2) (ty:=34) rfl _ _ w.heap.size _ _ rfl (row_range R9.out) under34 rfl info34) rfl ?_
        exact ⟨.inr rfl,grown_onlyN SD.out.gr O9.out (Nat.le_refl _)⟩
end MK
end
end Go.AEv
