/- Trails of an audit: calls and runs (L5a). Conditions: those of each theorem. -/
import Derived.Test.YtaffhpgaagnjfaaGreatDoorH4x0
open Go.Proofs.Tryz
set_option maxHeartbeats 4000000
set_option maxRecDepth 100000
namespace Go.AEv
section
open Go Go.Proofs TR
namespace RD
def zxN(w:World)(e:Ending)(w2:World):Prop:=e = .returned (.tuple #[.pointer none,.int .i64 2])/\Grown w w2
theorem zhc{B:Nat->Prop}{w:World}{a:Addr}{es:List Ent}(h:zU B w (.pointer (some a)) es):∃b o p c,a=⟨b,o,none⟩/\w.cell? ⟨b,o,none⟩=some (.slice p es.length c):=by
 obtain⟨⟨x,hd,r,h1,h2,h3,d,_⟩,_⟩:=h;cases h1;have hc:=TR.cell_of_row h2 (j:=0) rfl;rw[Nat.add_zero]at hc;by_cases hn:es=[]
 .rw[d.1 hn]at hc;subst hn;exact⟨_,_,none,0,rfl,hc⟩
 .obtain⟨y,e,_⟩:=d.2 hn;rw[e]at hc;exact⟨_,_,_,_,rfl,hc⟩
theorem zjf{B:Nat->Prop}{w:World}{a:Addr}{es:List Ent}(h:zU B w (.pointer (some a)) es)(few:es.length<=8):Calls prog 12 #[.pointer (some a),zg1] w (zxN w):=by
 obtain⟨b,o,p,c,rfl,hc⟩:=zhc h;have n1:((0:Int)==(es.length:Int)+1)=false:=by simp;omega
 have n2:RowKit.wrap64 ((es.length:Int)+1)=(es.length:Int)+1:=by unfold RowKit.wrap64;omega
 have n2':IntKind.i64.wrap ((es.length:Int)+1)=(es.length:Int)+1:=IntWalk.i64_in _ (by omega);have n6:((0:Int) != (es.length:Int)+1)=true:=by simp;omega
 have n3:decide (4000<=(es.length:Int))=false:=decide_eq_false (by omega);have n4:¬(4000<=(es.length:Int)):=by omega
 have n5:¬((0:Int)=(es.length:Int)+1):=by omega
 have few2:=Lib.hid few;have hc2:=yx hc (zE w (.cells #[.int .i64 0,.int .i64 0,.string ⟨#[]⟩,.int .i64 0,.string ⟨#[]⟩,.string ⟨#[]⟩,.int .i64 0,.bool false,.int .i64 0,.slice none 0 0,.slice none 0 0,.string ⟨#[]⟩,.string ⟨#[]⟩,.bool false] 42));clear h few hc;go_enter func12,ntmps12
 go_wp2
 all_goals(try go_region)
 all_goals(try go_wp2)
 all_goals go_ret2
 all_goals exact⟨rfl,(zE w _).trans' (JH _)⟩
end RD
end
section
open Go Go.Proofs TR
open Go.AuditPlain (put zt)
namespace RD
noncomputable def nr(R:zy):zy:={ R with up:=nrm R.up,down:=nrm R.down }
theorem zqs(R:zy):(nr R).qi=R.qi:=by
 unfold zy.qi;show AuditPlain.Rec.mk _ _ _ _ _ _ _ _ _ (zB (nrm R.up)) (zB (nrm R.down)) _ _ _=_;rw[Wd,Wd];rfl
theorem zf7(o:Option ByteArray):qo (nrm o)=qo o:=by unfold qo;rw[Wd]
theorem zwQ(R:zy):(nr R).els=R.els:=by
 unfold zy.els;show zB (nrm R.up)++zB (nrm R.down)=_;rw[Wd,Wd]
theorem ztj(R:zy):(nr R).zero=R.zero:=by
 unfold zy.zero;show(R.user=0/\qo (nrm R.up)=0/\qo (nrm R.down)=0/\R.does.size=0/\R.at_.size=0/\R.deep=false)=_;rw[zf7,zf7]
theorem ifc{a:Type}{b c:Prop}{_:Decidable b}{_:Decidable c}{x y u v:a}(h:b↔c)(h1:x=u)(h2:y=v):(if b then x else y)=if c then u else v:=by
 by_cases hb:b
 .rw[if_pos hb,if_pos (h.1 hb),h1]
 .rw[if_neg hb,if_neg fun e=>hb (h.2 e),h2]
theorem ztk(R:zy):(nr R).Zz=R.Zz:=by
 unfold zy.Zz;refine ifc ?_ rfl (ifc ?_ rfl (ifc ?_ rfl rfl))
 .rw[ztj];exact Iff.rfl
 .rw[show qo (nr R).up=qo R.up from zf7 _,show qo (nr R).down=qo R.down from zf7 _]
 .rw[zwQ];exact Iff.rfl
theorem zqv(R:zy):(nr R).err=R.err:=by
 unfold zy.err;rw[ztk];rfl
theorem zeS{o:Option ByteArray}(h:yB o):yB (nrm o):=by
 intro s hs;unfold nrm at hs;split at hs
 .cases hs
 .exact h s hs
theorem zqt{R:zy}(h:R.Ok):(nr R).Ok:=⟨h.number,h.version,h.tenant,h.session,h.action,h.path,h.day,h.user,zeS h.up,zeS h.down,h.does,h.at_⟩
theorem zqu(Rs:List zy)(R:zy):qZ (Rs.map nr) (nr R)=qZ Rs R:=by
 have hx:(∃x∈Rs.map nr,bars x (nr R))=(∃x∈Rs,bars x R):=by
  refine propext ⟨fun⟨x,hx,hb⟩=>?_,fun⟨x,hx,hb⟩=>⟨nr x,List.mem_map.2 ⟨x,hx,rfl⟩,hb⟩⟩;obtain⟨y,a,rfl⟩:=List.mem_map.1 hx;exact⟨y,a,hb⟩
 unfold qZ;rw[zqv,List.length_map];exact ifc Iff.rfl rfl (ifc Iff.rfl rfl (ifc (Iff.of_eq hx) rfl rfl))
theorem zkr(Rs:List zy):qN (Rs.map nr)=qN Rs:=by
 have a:(fun(h:Nat->Nat) (R:zy)=>zcL h (nr R))=zcL:=by
  funext h R
  unfold zcL zj9;rw[zqs]
 unfold qN;rw[List.foldl_map,a]
theorem zi9{b:Nat}{w w2:World}{v:Value}{o:Option ByteArray}(h:AtS w v o)(a:Ty w b)(k:j6 b w w2):AtS w2 v o:=by
 cases o with
 | none=>exact h
 | some s=>
  obtain⟨x,arr,fz,h⟩:=h;obtain⟨f,d,a⟩:=a;refine⟨x,arr,fz,h.is,?_,h.cap,h.size,h.cell,h.thaw⟩;rw[k.old x.1 (Array.getElem?_eq_some_iff.1 h.row).1 fun e=>?_]
  .exact h.row
  .have c:=h.row;rw[e,a]at c;simp only[Option.some.injEq,Obj.cells.injEq]at c;exact absurd c.2.1 (by decide)
theorem U4{w w2:World}{b:Nat}{x:Nat×Nat×Nat}{t:TypeId}{vs:List Value}(k:j6 b w w2)(h:zw prog w x t vs)(hn:x.1≠b):zw prog w2 x t vs:=
 @zw.heap unk0 _ _ _ _ _ _ h (k.old _ (zw.lt h) hn)
theorem zb3{B:Nat->Prop}{w w2:World}{t:Value}{es:List Ent}{b:Nat}(h:zU B w t es)(hb:¬B b)(c:Ty w b)(k:j6 b w w2):zU B w2 t es:=by
 obtain⟨⟨x,hd,r,e,n,m,a,j,i,f⟩,l⟩:=h;refine⟨⟨x,hd,r,e,U4 k n fun e=>hb (e ▸ j),U4 k m fun e=>hb (e ▸ i),⟨a.1,fun hn=>?_⟩,j,i,f⟩,fun q hq=>⟨zi9 (l q hq).1 c k,zi9 (l q hq).2 c k⟩⟩;obtain⟨y,d,o⟩:=a.2 hn;exact⟨y,d,U4 k o fun p=>hb (p ▸ f _ _ _ d)⟩
structure Rr(w0 wN w:World)(b g:Nat)(t:Value)(es:List Ent)(L:List Nat)(er:Int):Prop where
 at_:At w b g L er
 ty:Ty w b
 tr:zU (own wN) w t es
 gr:Grown w0 w
 bN:b<wN.heap.size
 gN:g<wN.heap.size
 nw:wN.heap.size<=w.heap.size
 b0:w0.heap.size<=b
 n0:w0.heap.size<=wN.heap.size
section
variable{w0 wN w w2:World}{b g:Nat}{t:Value}{es:List Ent}{L L':List Nat}{er er':Int}
theorem Rr.only(h:Rr w0 wN w b g t es L er)(k:j6 b w w2)(a:At w2 b g L' er'):Rr w0 wN w2 b g t es L' er':=
 ⟨a,h.ty.only k,zb3 h.tr (fun e=>by have:=h.bN;have e:wN.heap.size<=b:=e;omega) h.ty k,⟨fun c hc=>by rw[k.old c (Nat.lt_of_lt_of_le hc h.gr.size) (by have:=h.b0;omega),h.gr.old c hc],Nat.le_trans h.gr.size k.size,k.tape.trans h.gr.tape,k.os.trans h.gr.os,k.output.trans h.gr.output⟩,h.bN,h.gN,Nat.le_trans h.nw k.size,h.b0,h.n0⟩
theorem Rr.grown(h:Rr w0 wN w b g t es L er)(k:Grown w w2):Rr w0 wN w2 b g t es L er:=
 ⟨h.at_.grown k,h.ty.only (j6.qt k),Zw k h.tr,h.gr.trans' k,h.bN,h.gN,Nat.le_trans h.nw k.size,h.b0,h.n0⟩
theorem Rr.app{t2:Value}{a:List Ent}(h:Rr w0 wN w b g t es L er)(k:qy w w2)(k3:Zy (own wN) w w2)(d:zU (own wN) w2 t2 a):Rr w0 wN w2 b g t2 a L er:=by
 have old:∀c,c<wN.heap.size->w2.heap[c]?=w.heap[c]?:=fun c hc=>k3.2 c (Nat.lt_of_lt_of_le hc h.nw) (fun e=>by have e:wN.heap.size<=c:=e;omega);refine⟨h.at_.other (old b h.bN) (old g h.gN),?_,d,⟨fun c hc=>by rw[old c (Nat.lt_of_lt_of_le hc h.n0),h.gr.old c hc],Nat.le_trans h.gr.size k.size,k.tape.trans h.gr.tape,k.os.trans h.gr.os,k.output.trans h.gr.output⟩,h.bN,h.gN,Nat.le_trans h.nw k.size,h.b0,h.n0⟩;obtain⟨i,f,h2⟩:=h.ty;exact⟨i,f,by rw[old b h.bN];exact h2⟩
def zxM(w0 wN:World)(b g:Nat)(t:Value)(es:List Ent)(M L:List Nat)(e:Ending)(w2:World):Prop:=∃p c,e = .returned (.slice p M.length c)/\In w2 p M/\Rr w0 wN w2 b g t es L 0
theorem zu7(h:Rr w0 wN w b g t es L 0){N:Nat}{M:List Nat}(hb:N<=1000000)(d:jS N L=some (M,L')):Calls prog 43 #[.pointer (some ⟨b,0,none⟩),.int .i64 (N:Nat)] w (zxM w0 wN b g t es M L'):=by
 refine(zdH h.at_ hb d).mono fun e w2 k=>?_;obtain⟨p,c,a,_,k2,_,_,k3,k4⟩:=k;exact⟨p,c,a,k2,h.only k4 k3⟩
def zsD(w0 wN:World)(b g:Nat)(t:Value)(es:List Ent)(L:List Nat)(e:Ending)(w2:World):Prop:=∃er:Int,er≠0/\e = .returned (.slice none 0 0)/\Rr w0 wN w2 b g t es L er
theorem zr6(h:Rr w0 wN w b g t es L 0){N:Nat}(hb:N<=1000000)(c:jS N L=none):Calls prog 43 #[.pointer (some ⟨b,0,none⟩),.int .i64 (N:Nat)] w (zsD w0 wN b g t es L):=by
 refine(zoC h.at_ hb c).mono fun e w2 k=>?_;obtain⟨er,a,k2,k3,k4⟩:=k;exact⟨er,a,k2,h.only k4 k3⟩
def zDF(w0 wN:World)(b g:Nat)(t:Value)(es:List Ent)(L:List Nat)(R:zy)(e:Ending)(w2:World):Prop:=∃p1 n1 c1 p2 n2 c2,e = .returned (.tuple #[zbn R p1 p2 n1 n2 c1 c2,.bool true])/\Rr w0 wN w2 b g t es L 0/\AtS w2 (.slice p1 n1 c1) (nrm R.up)/\AtS w2 (.slice p2 n2 c2) (nrm R.down)
theorem zzJ(h:Rr w0 wN w b g t es L 0){p:Option Addr}{c n:Nat}{R:zy}(hi:In w p R.qi.bytes)(hn:R.qi.bytes.length=n)(l:EN.Good R)(hd:R.day<=30000):Calls prog 42 #[.slice p n c] w (zDF w0 wN b g t es L R):=by
 refine(zrS hi hn l hd).mono fun e w2 k=>?_;obtain⟨d,i,c1,a,f,m,j,k2,k3,k4⟩:=k;exact⟨d,i,c1,a,f,m,j,h.grown k2,k3,k4⟩
def zDG(w0 wN:World)(b g:Nat)(t:Value)(es:List Ent)(L:List Nat)(er:Int)(e:Ending)(w2:World):Prop:=e = .returned (.tuple #[zg1,.bool false])/\Rr w0 wN w2 b g t es L er
theorem zxp(h:Rr w0 wN w b g t es L er):Calls prog 42 #[.slice none 0 0] w (zDG w0 wN b g t es L er):=by
 refine(zrR w).mono fun e w2 k=>?_;exact⟨k.1,h.grown k.2⟩
def zDI(w0 wN:World)(b g:Nat)(es:List Ent)(L:List Nat)(er:Int)(R:zy)(e:Ending)(w2:World):Prop:=∃a z1 z2,e = .returned (.tuple #[.pointer (some a),.int .i64 0])/\Rr w0 wN w2 b g (.pointer (some a)) (es++[(nr R,z1,z2)]) L er
theorem zA2(n:Z6 w0)(h:Rr w0 wN w b g t es L er)(few:es.length<=8){R:zy}{Rs:List zy}(hs:es.map (·.1)=Rs.map nr)(ok:R.Ok)(he:qZ Rs R=0){f d:Option Addr}{j i c1 l:Nat}(h1:AtS w (.slice f j c1) (nrm R.up))(h2:AtS w (.slice d i l) (nrm R.down)) :
  Calls prog 12 #[t,zbn R f d j i c1 l] w (zDI w0 wN b g es L er R):=by
 refine Calls.mono (AP.zbm (R:=nr R) (v1:=.slice f j c1) (v2:=.slice d i l) ⟨zqt ok,few,h.tr,h1,h2,n.Z4 (qy.qt h.gr),fun c hc=>Nat.le_trans h.nw hc⟩) fun e w2 hp=>?_;obtain⟨k,k3,o,t2,rfl,g1,m⟩:=hp;have he:qZ (es.map (·.1)) (nr R)=0:=by rw[hs,zqu];exact he
 obtain⟨u1,u2,a⟩:=m he;obtain⟨⟨x,hd,r,rfl,_⟩,_⟩:=id a;exact⟨_,u1,u2,by rw[he];rfl,h.app k k3 a⟩
theorem zxx{a:Addr}(h:Rr w0 wN w b g (.pointer (some a)) es L er)(few:es.length<=8):Calls prog 12 #[.pointer (some a),zg1] w fun e w2=>e = .returned (.tuple #[.pointer none,.int .i64 2])/\Rr w0 wN w2 b g (.pointer (some a)) es L er:=by
 refine(zjf h.tr few).mono fun e w2 k=>?_;exact⟨k.1,h.grown k.2⟩
end
end RD
end
end Go.AEv
