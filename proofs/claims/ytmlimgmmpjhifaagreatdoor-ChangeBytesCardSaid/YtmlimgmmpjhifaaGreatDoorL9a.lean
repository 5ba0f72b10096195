/- Changes, their encodings and texts: calls and runs (L9a). Conditions: those of each theorem. -/
import Derived.Test.YtmlimgmmpjhifaaGreatDoorH8x0
set_option maxHeartbeats 8000000
set_option maxRecDepth 100000
set_option linter.all false
namespace Go.AEv
section
open Go Go.Proofs TR
open Go.AuditPlain (put zw qg)
namespace MK
open Go.AEv.GT (zO qq)
open RD (qe At AtU UP In S stU stB stF Xv)
theorem iT {m v:Nat}{s s':S} (h:stU m s=(v,s')) (hl:∀ y∈s.1,y<256):v≤m∧(s'.2=true→s.2=true∧s.1=put v++s'.1)∧∀ y∈s'.1,y<256:=by
 unfold stU at h
 split at h
 ·rename_i h2
  split at h
  ·rename_i v' L hu
   cases h
   obtain ⟨h3,h4⟩:=RP.uint_can hl hu
   exact ⟨h4,fun _=>⟨h2,h3⟩,fun y hy=>hl y (by rw [h3];exact List.mem_append_right _ hy)⟩
  ·cases h;exact ⟨Nat.zero_le _,(fun h=>by cases h),hl⟩
 ·cases h;exact ⟨Nat.zero_le _,(fun h=>by cases h),hl⟩
theorem Vg {m:Nat}{v:List Nat}{s s':S} (h:stB m s=(v,s')) (hl:∀ y∈s.1,y<256):v.length≤m∧(s'.2=true→s.2=true∧s.1=zw v++s'.1)∧∀ y∈s'.1,y<256:=by
 unfold stB at h
 split at h
 ·rename_i h2
  split at h
  ·rename_i v' L hu
   cases h
   obtain ⟨h3,h4⟩:=RP.oa hl hu
   exact ⟨h4,fun _=>⟨h2,h3⟩,fun y hy=>hl y (by rw [h3];exact List.mem_append_right _ hy)⟩
  ·cases h;exact ⟨Nat.zero_le _,(fun h=>by cases h),hl⟩
 ·cases h;exact ⟨Nat.zero_le _,(fun h=>by cases h),hl⟩
theorem tQ {v:Bool}{s s':S} (h:stF s=(v,s')) (hl:∀ y∈s.1,y<256):(s'.2=true→s.2=true∧s.1=qg v++s'.1)∧∀ y∈s'.1,y<256:=by
 unfold stF at h
 split at h
 ·rename_i h2
  split at h
  ·rename_i v' L hu
   cases h
   have h3:=RP.sG hu
   exact ⟨fun _=>⟨h2,h3⟩,fun y hy=>hl y (by rw [h3];exact List.mem_append_right _ hy)⟩
  ·cases h;exact ⟨(fun h=>by cases h),hl⟩
 ·cases h;exact ⟨(fun h=>by cases h),hl⟩
def seg (u:Bool) (l:List Nat):List Nat:=if u then l else []
def nth (c:Pc):Nat→Nat
 | 0=>c.n0
 | 1=>c.n1
 | 2=>c.n2
 | 3=>c.n3
 | 4=>c.n4
 | _=>c.n5
def qj (c:Pc):Nat→List Nat
 | 0=>put c.k
 | j+1=>qj c j++seg (useB c.k j) (put (nth c j))
def enc (c:Pc):List Nat:=qj c 6++seg (useB c.k 6) (zw c.nm)++seg (useB c.k 7) (zw c.tx)++seg (useB c.k 8) (zw c.ac++zw c.pa++qg c.dp)
theorem sK {w:World}{b g:Nat}{s:S} (h:AtU w b g s):Calls Tryz.prog 35 #[.pointer (some ⟨b,0,none⟩)] w fun e w2=>∃ er:Int,e = .returned (.int .i64 er)∧(er==0)=(s.2&&s.1.isEmpty)∧w=w2:=by
 obtain ⟨L,ok⟩:=s
 cases ok with
 | true=>
  have ha:=h.yes rfl
  cases L with
  | nil=>exact (RD.BF ha rfl).mono fun _ _ k=>⟨0,k.1,rfl,k.2⟩
  | cons y L=>exact (RD.sL ha (by simp)).mono fun _ _ k=>⟨6,k.1,rfl,k.2⟩
 | false=>
  obtain ⟨er,hn,ha⟩:=h.no rfl
  exact (RD.BG ha hn).mono fun _ _ k=>⟨er,k.1,by rw [beq_eq_false_iff_ne.2 hn];rfl,k.2⟩
def wG (w:World) (M:List Nat) (e:Ending) (w2:World):Prop:=∃ b g,e = .returned (.pointer (some ⟨b,0,none⟩))∧AtU w2 b g (M,true)∧Grown w w2∧w.heap.size≤b∧g<b∧b<w2.heap.size
theorem fW {w:World}{p:Option Addr}{c:Nat}{M:List Nat} (hM:In w p M) (hlen:M.length≤100000) (hw:0<w.heap.size):Calls Tryz.prog 29 #[.slice p M.length c] w (wG w M):=by
 have HM:=Lib.hid hM
 clear hM
 go_enter Tryz.func29,Tryz.ntmps29
 go_wp2_with (first
  | (go_at_call 78;(with_reducible refine (RD.WT HM.out hlen).mono ?_);rintro e w2 ⟨p2,c2,rfl,g2,hc2,hi2,hb2,hb3⟩))
 go_ret
 have R:=zn w2 (z:=#[.slice p2 M.length c2,.int .i64 0]) (t:=164)
 have ga:=za w2 (.cells #[.slice p2 M.length c2,.int .i64 0] 164)
 have inn:In (w2.alloc (.cells #[.slice p2 M.length c2,.int .i64 0] 164)) p2 M:=⟨hi2.1,fun h=>by obtain ⟨b,o,e,hc⟩:=hi2.2 h;exact ⟨b,o,e,fun i x hx=>RD.ze (hc i x hx) ga⟩⟩
 have key:∀ g,g<w2.heap.size→(∀ a,p2=some a→a.block=g)→wG w M (.returned (.pointer (some ⟨w2.heap.size,0,none⟩))) (w2.alloc (.cells #[.slice p2 M.length c2,.int .i64 0] 164)):=fun g hg hp=>
  ⟨w2.heap.size,g,rfl,⟨0,⟨fun _=>rfl,fun _=>rfl⟩,⟨⟨p2,c2,(zc (k:=0) R rfl).1,hc2,inn,hp⟩,Nat.ne_of_lt hg,(zc (k:=1) R rfl).1,(zc (k:=0) R rfl).2,(zc (k:=1) R rfl).2,hlen⟩⟩,g2.trans' ga,g2.size,hg,by rw [zQ];omega⟩
 cases hp:p2 with
 | none=>rw [hp]at key;exact key 0 (Nat.lt_of_lt_of_le hw g2.size) (fun a e=>by cases e)
 | some a=>rw [hp]at key;exact key a.block (hb3 a hp) (fun a' e=>by cases e;rfl)
theorem AtU.same {w w2:World}{b g:Nat}{s:S} (h:AtU w b g s) (hb:w2.heap[b]? = w.heap[b]?) (hg:w2.heap[g]? = w.heap[g]?):AtU w2 b g s:=by
 obtain ⟨er,h1,h2⟩:=h
 obtain ⟨p,c,k1,k2,k3,k4⟩:=h2.left
 refine ⟨er,h1,⟨⟨p,c,by rw [World.cell?_of_block (a:=⟨b,0,none⟩) hb];exact k1,k2,⟨k3.1,fun hn=>?_⟩,k4⟩,h2.sep,by rw [World.cell?_of_block (a:=⟨b,1,none⟩) hb];exact h2.err,by rw [World.frozen?_of_block (a:=⟨b,0,none⟩) hb];exact h2.fz0,by rw [World.frozen?_of_block (a:=⟨b,1,none⟩) hb];exact h2.fz1,h2.few⟩⟩
 obtain ⟨b',o,rfl,hc⟩:=k3.2 hn
 have:=k4 _ rfl
 subst this
 refine ⟨b',o,rfl,fun i x hx=>?_⟩
 rw [World.cell?_of_block (a:=⟨b',o+i,none⟩) hg]
 exact hc i x hx
theorem AtU.grown {w w2:World}{b g:Nat}{s:S} (h:AtU w b g s) (k:Grown w w2):AtU w2 b g s:=by
 obtain ⟨er,h1,h2⟩:=h
 exact ⟨er,h1,h2.grown k⟩
abbrev Wo:List Value:=[.int .u8 0,.int .i64 0,.int .i64 0,.int .i64 0,.int .i64 0,.int .i64 0,.int .i64 0,.string ⟨#[]⟩,.string ⟨#[]⟩,.string ⟨#[]⟩,.string ⟨#[]⟩,.bool false]
abbrev useL (k:Nat):List Value:=[.bool (useB k 0),.bool (useB k 1),.bool (useB k 2),.bool (useB k 3),.bool (useB k 4),.bool (useB k 5),.bool (useB k 6),.bool (useB k 7),.bool (useB k 8)]
structure RS (w wx:World) (b g b5 b6:Nat) (M out:List Nat) (s:S) (c:Pc):Prop where
 gr:Grown w wx
 at_:AtU wx b g s
 z:zx Tryz.prog wx (w.heap.size,0,0) 34 Wo
 x:zx Tryz.prog wx (b5,0,0) 34 c.cells
 f:zx Tryz.prog wx (b6,0,0) 78 (useL c.k)
 o1:w.heap.size<b
 o2:g<b
 o3:b<b5
 o4:b5<b6
 can:s.2=true→M=out++s.1
 lt:∀ y∈s.1,y<256
 nrm:Nrm c
section
variable {w wx wy:World}{b g b5 b6:Nat}{M out out2:List Nat}{s s':S}{c c':Pc}
theorem RS.next {v:Value}{e:Ending} (h:RS w wx b g b5 b6 M out s c) (k:UP wx b g s' v e wy) (hc:s'.2=true→M=out2++s'.1) (hl:∀ y∈s'.1,y<256):RS w wy b g b5 b6 M out2 s' c:=
 have h1:=h.o1
 have h3:=h.o3
 have h4:=h.o4
 ⟨ji h.gr k.2.2 (by omega),k.2.1,qv h.z k.2.2 (by show w.heap.size≠b;omega),qv h.x k.2.2 (by show b5≠b;omega),qv h.f k.2.2 (by show b6≠b;omega),h.o1,h.o2,h.o3,h.o4,hc,hl,h.nrm⟩
theorem RS.put {e:Nat}{v:Value} (h:RS w wx b g b5 b6 M out s c) (hr:zx Tryz.prog (wx.setCell ⟨b5,e,none⟩ v) (b5,0,0) 34 c'.cells) (hk:c'.k=c.k) (ho:out2=out) (hn:Nrm c'):RS w (wx.setCell ⟨b5,e,none⟩ v) b g b5 b6 M out2 s c':=by
 have h1:=h.o1
 have h2:=h.o2
 have h3:=h.o3
 have h4:=h.o4
 subst ho
 refine ⟨qB h.gr (by omega),AtU.same h.at_ (zo (by omega)) (zo (by omega)),zV h.z (zo (by show w.heap.size≠b5;omega)),hr,?_,h.o1,h.o2,h.o3,h.o4,h.can,h.lt,hn⟩
 rw [hk]
 exact zV h.f (zo (by show b6≠b5;omega))
theorem RS.grown (h:RS w wx b g b5 b6 M out s c) (k:Grown wx wy):RS w wy b g b5 b6 M out s c:=⟨h.gr.trans' k,AtU.grown h.at_ k,zk k h.z,zk k h.x,zk k h.f,h.o1,h.o2,h.o3,h.o4,h.can,h.lt,h.nrm⟩
end
end MK
end
section
open Go Go.Proofs TR
namespace MK
theorem Qz (s:ByteArray):str (sb s)=s:=by
 obtain ⟨⟨l⟩⟩:=s
 unfold str sb
 congr 1
 congr 1
 rw [List.map_map]
 conv=>rhs;rw [← List.map_id l]
 refine List.map_congr_left fun n _=>?_
 show UInt8.ofNat n.toNat=n
 exact UInt8.ofNat_toNat
end MK
end
end Go.AEv
