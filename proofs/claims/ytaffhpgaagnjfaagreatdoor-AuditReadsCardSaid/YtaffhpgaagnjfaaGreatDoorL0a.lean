/- Trails: L0a. Conditions: each theorem's. -/
import Derived.Test.YtaffhpgaagnjfaaGreatDoorEvSe
import Derived.Test.YtaffhpgaagnjfaaGreatDoorProg
import Derived.Shelf.Strings.Prefix
import Derived.Shelf.Strings.Split
import Derived.Ground.NamesProg
import Derived.WalkKit
import Derived.Deep.LoopGhost
import Derived.Deep.Draws
import Derived.Shelf.RegionOpenPlain
import Derived.Test.YtaffhpgaagnjfaaGreatDoorRows
import Derived.LaidMore
import Derived.Lay
import Derived.LaidLaws
set_option linter.all false
open Nat Go.World Go.Proofs.Tryz
open Go.Proofs
set_option maxHeartbeats 2000000
set_option maxRecDepth 100000
namespace Go.AEv
variable{k x y:Nat}
noncomputable section
def specs:List (FuncId×Spec):=[(6,.fact),(24,.fact),(16,.fact),(28,.fact),(22,.fact),(60,.fact),(64,.fact),(46,.fact),(72,.fact),(73,.fact),(74,.fact),(75,.fact),(114,.fact),(115,.fact),(116,.fact),(30,.fact),(31,.fact),(32,.fact),(68,.fact),(69,.fact),(70,.fact),(71,.fact),(76,.fact),(82,.fact),(86,.fact),(27,.fact),(130,.fact),(185,.fact),(189,.fact),(277,.fact),(77,.fact),(102,.fact),(183,.fact),(228,.fact),(362,.insert),(348,.insert),(341,.insert),(392,.mapsClone),(469,.indexByte),(530,.makeNoZero 5),(499,.same),(239,.compare),(387,.count)]
def zb2:List Nat:=[0,1,56,2,57,49,28,3,61,58,42,50,38,29,17,4,62,47,59,36,45,43,51,22,53,39,33,30,24,18,12,5,63,55,48,27,60,41,37,16,46,35,44,21,52,32,23,11,54,26,40,15,34,20,31,10,25,14,19,9,13,8,7,6]
def zb7:List Nat:=[1,10,100,1000,10000,100000,1000000,10000000,100000000,1000000000,10000000000,100000000000,1000000000000,10000000000000,100000000000000,1000000000000000,10000000000000000,100000000000000000,1000000000000000000,10000000000000000000]
def rounds:List Nat:=[0x0000000000000001,0x0000000000008082,0x800000000000808a,0x8000000080008000,0x000000000000808b,0x0000000080000001,0x8000000080008081,0x8000000000008009,0x000000000000008a,0x0000000000000088,0x0000000080008009,0x000000008000000a,0x000000008000808b,0x800000000000008b,0x8000000000008089,0x8000000000008003,0x8000000000008002,0x8000000000000080,0x000000000000800a,0x800000008000000a,0x8000000080008081,0x8000000000008080,0x0000000080000001,0x8000000080008008]
def turns:List Nat:=[0,1,62,28,27,36,44,6,55,20,3,10,43,25,39,41,45,15,21,8,18,2,61,56,14]
def tabs:List (Nat×X):=[(1,.cells 401 24 (M.ofList (rounds.map λn=>.int .u64 (Int.ofNat n)))),(2,.cells 403 25 (M.ofList (turns.map λn=>.int .i64 (Int.ofNat n)))),
 (3,.cells 451 64 (M.ofList (zb2.map λn=>.int .u8 (Int.ofNat n)))),(6,.cells 638 20 (M.ofList (zb7.map λn=>.int .u64 (Int.ofNat n))))]
def Mu:List (List Nat×List Nat):=[
 ([1808049722520581,0,0,0,0,0,0,0,0,0,0,0,0,0,0,0,9223372036854775808,0,0,0,0,0,0,0,0],[14752194824451277626,9979897377865387385,417281106614543200,5199868507865134551,8349282524956134942,14653457933342351129,717166009895723538,16475322289687121619,16679606675931074118,1642514796661369492,4900738223919465677,11849366285064310414,13776681006804613239,10814357108171568023,9810498305936098431,17582381860480989073,12020585593645013868,14641783362062110430,15587542991077870793,10620216728309599961,16797244071311205035,17359235939321722772,13383259052490055553,1798826665219046530,2376237084468157626]),
 ([2334116329619288582,14752194824451277626,9979897377865387385,417281106614543200,5199868507865134551,8215694240177520923,72339270901457253,7018140955849064705,25772884324,0,0,0,0,0,0,0,9223372036854775808,0,0,0,0,0,0,0,0],[7294789918349575960,8326750190984797046,3483608723206671345,1622219382757715485,14895212471511186322,8218635086387333514,15972491284111390415,682049350897970237,3888991164222045383,16322793489010936059,13075650121352752991,7186218700553513171,17930835082468660238,14697559895215553159,1840955570876518182,342942578783918233,2928685183393605351,14569137559171576477,9378994202450143446,10224325541261511326,15018953605311959387,365622937938635044,17279244884482346783,13192233647817331054,6888808295703718985]),
 ([2334116329619288582,14752194824451277626,9979897377865387385,417281106614543200,5199868507865134551,8215694240177520916,201886818661,6597069766656,0,0,0,0,0,0,0,0,9223372036854775808,0,0,0,0,0,0,0,0],[11599401337902946502,2634474049992492463,14809104784989115461,17068210708424179869,4052609791123263653,738152291886243270,4432427715056461605,4495926517975076522,10668819336904025310,17260427072377063933,6712507649244304000,4670620033503862892,10628170975995064777,14533029961602849686,2864360580155814234,8643487229312882418,1181142296916709891,17008376177891998047,5567366694590720529,7056790545022868477,5667295530651065640,3262935586127491875,2331833544492125029,17091542660348563320,17042677862856755700]),
 ([2334116329619288582,14752194824451277626,9979897377865387385,417281106614543200,5199868507865134551,8215694240177520923,72339270901457253,7018140955849064961,25772884324,0,0,0,0,0,0,0,9223372036854775808,0,0,0,0,0,0,0,0],[13583645199854402175,3805987102989027456,10643045556391305006,15354045472600340367,11757014087171061718,12343199623390756694,2046367959467645991,9075140946822398571,15249337556369579507,2974056258605586509,6445465662047742024,15499869664931648148,16230084375603948448,16263269638720035969,4248358133497780280,8560225281866970365,3169416563430993006,960750536643789589,9396553361335526057,4663909845275391478,9020482311053235980,15061966171664742690,6686578542970368129,16066493551436632243,13147378376550756069]),
 ([2334116329619288582,14752194824451277626,9979897377865387385,417281106614543200,5199868507865134551,8215694240177586459,72339270901457253,7018140955849064705,25772884324,0,0,0,0,0,0,0,9223372036854775808,0,0,0,0,0,0,0,0],[11705720781440313427,10674502462297958025,15409180166400291836,7099396140423114666,11726099230887453272,15841694298943291197,2445259610420687102,8440832995824229603,18332333413864279780,1155603696916772768,5620110223651865733,11623323995498503852,1016662293510636481,4044547077232246520,16504188587180866767,14309029582924800269,12317114409756092653,15014947320594754871,6686595613916379219,11997917880099593331,8243520753377834829,14588143862146145164,8029216855246790147,9021650469167177898,10831212593043497692]),
 ([2334116329619288582,14752194824451277626,9979897377865387385,417281106614543200,5199868507865134551,8215694240177520923,72340370413085029,7018140955849064705,25772884324,0,0,0,0,0,0,0,9223372036854775808,0,0,0,0,0,0,0,0],[8102683536426054290,3831900940926545732,2893759011247503728,409095615831735297,12558252929769750066,15753732674159816217,6886103936450921848,7334367329345640405,12093605617593637210,15268432220067888128,12445874891400588997,6982601655313745745,2481638898133933550,16866511094739737632,8195905546998462416,6161948531678047271,371601302304213298,4890827219647525943,3794392832368179261,9834101797122636628,7936242340589513545,6267714898427264312,1327910944519248121,14187382468586419822,6887340453196112111])]
def df(l:Eb):X:=.cells 300 25 (M.ofList (l.map λn=>.int .u64 (.ofNat n)))
def zb9:Nat:=48
def Co(p:List Nat×List Nat):Fact:=.memoG 228 300 [⟨300,301,300,0,0,0⟩] [.ptr 300 0] 301 [(300,df p.1)] [(300,df p.2)] (.tuple []) (Nat.add 301 zb9)
def V3:List Fact:=Mu.map Co
def K8:List (Nat×X):=[
 (300,.cells 308 2 (.node (.node .nil (some (.nilmap)) .nil) (some (.nilslice)) .nil)),
 (301,.cells 308 2 (.node (.node .nil (some (.nilmap)) .nil) (some (.nilslice)) .nil)),
 (302,.cells 288 0 (.nil)),
 (303,.cells 384 5 (.node (.node (.node .nil (some (.slice 435 0 64 64 true)) .nil) (some (.slice 302 0 0 0 true)) .nil) (some (.int .i64 (.ofNat 64))) (.node (.node .nil (some (.slice 432 0 64 64 false)) .nil) (some (.slice 434 0 64 64 true)) .nil))),
 (432,.cells 3 64 (.node (.node (.node (.node (.node (.node (.node .nil (some (.int .i64 (.ofNat 63))) .nil) (some (.int .i64 (.ofNat 31))) .nil) (some (.int .i64 (.ofNat 15))) (.node .nil (some (.int .i64 (.ofNat 47))) .nil)) (some (.int .i64 (.ofNat 7))) (.node (.node .nil (some (.int .i64 (.ofNat 39))) .nil) (some (.int .i64 (.ofNat 23))) (.node .nil (some (.int .i64 (.ofNat 55))) .nil))) (some (.int .i64 (.ofNat 3))) (.node (.node (.node .nil (some (.int .i64 (.ofNat 35))) .nil) (some (.int .i64 (.ofNat 19))) (.node .nil (some (.int .i64 (.ofNat 51))) .nil)) (some (.int .i64 (.ofNat 11))) (.node (.node .nil (some (.int .i64 (.ofNat 43))) .nil) (some (.int .i64 (.ofNat 27))) (.node .nil (some (.int .i64 (.ofNat 59))) .nil)))) (some (.int .i64 (.ofNat 1))) (.node (.node (.node (.node .nil (some (.int .i64 (.ofNat 33))) .nil) (some (.int .i64 (.ofNat 17))) (.node .nil (some (.int .i64 (.ofNat 49))) .nil)) (some (.int .i64 (.ofNat 9))) (.node (.node .nil (some (.int .i64 (.ofNat 41))) .nil) (some (.int .i64 (.ofNat 25))) (.node .nil (some (.int .i64 (.ofNat 57))) .nil))) (some (.int .i64 (.ofNat 5))) (.node (.node (.node .nil (some (.int .i64 (.ofNat 37))) .nil) (some (.int .i64 (.ofNat 21))) (.node .nil (some (.int .i64 (.ofNat 53))) .nil)) (some (.int .i64 (.ofNat 13))) (.node (.node .nil (some (.int .i64 (.ofNat 45))) .nil) (some (.int .i64 (.ofNat 29))) (.node .nil (some (.int .i64 (.ofNat 61))) .nil))))) (some (.int .i64 (.ofNat 0))) (.node (.node (.node (.node (.node .nil (some (.int .i64 (.ofNat 32))) .nil) (some (.int .i64 (.ofNat 16))) (.node .nil (some (.int .i64 (.ofNat 48))) .nil)) (some (.int .i64 (.ofNat 8))) (.node (.node .nil (some (.int .i64 (.ofNat 40))) .nil) (some (.int .i64 (.ofNat 24))) (.node .nil (some (.int .i64 (.ofNat 56))) .nil))) (some (.int .i64 (.ofNat 4))) (.node (.node (.node .nil (some (.int .i64 (.ofNat 36))) .nil) (some (.int .i64 (.ofNat 20))) (.node .nil (some (.int .i64 (.ofNat 52))) .nil)) (some (.int .i64 (.ofNat 12))) (.node (.node .nil (some (.int .i64 (.ofNat 44))) .nil) (some (.int .i64 (.ofNat 28))) (.node .nil (some (.int .i64 (.ofNat 60))) .nil)))) (some (.int .i64 (.ofNat 2))) (.node (.node (.node (.node .nil (some (.int .i64 (.ofNat 34))) .nil) (some (.int .i64 (.ofNat 18))) (.node .nil (some (.int .i64 (.ofNat 50))) .nil)) (some (.int .i64 (.ofNat 10))) (.node (.node .nil (some (.int .i64 (.ofNat 42))) .nil) (some (.int .i64 (.ofNat 26))) (.node .nil (some (.int .i64 (.ofNat 58))) .nil))) (some (.int .i64 (.ofNat 6))) (.node (.node (.node .nil (some (.int .i64 (.ofNat 38))) .nil) (some (.int .i64 (.ofNat 22))) (.node .nil (some (.int .i64 (.ofNat 54))) .nil)) (some (.int .i64 (.ofNat 14))) (.node (.node .nil (some (.int .i64 (.ofNat 46))) .nil) (some (.int .i64 (.ofNat 30))) (.node .nil (some (.int .i64 (.ofNat 62))) .nil))))))),
 (434,.cells 205 64 (.node (.node (.node (.node (.node (.node (.node .nil (some (.nilslice)) .nil) (some (.nilslice)) .nil) (some (.nilslice)) (.node .nil (some (.nilslice)) .nil)) (some (.nilslice)) (.node (.node .nil (some (.nilslice)) .nil) (some (.nilslice)) (.node .nil (some (.nilslice)) .nil))) (some (.nilslice)) (.node (.node (.node .nil (some (.nilslice)) .nil) (some (.nilslice)) (.node .nil (some (.nilslice)) .nil)) (some (.nilslice)) (.node (.node .nil (some (.nilslice)) .nil) (some (.nilslice)) (.node .nil (some (.nilslice)) .nil)))) (some (.nilslice)) (.node (.node (.node (.node .nil (some (.nilslice)) .nil) (some (.nilslice)) (.node .nil (some (.nilslice)) .nil)) (some (.nilslice)) (.node (.node .nil (some (.nilslice)) .nil) (some (.nilslice)) (.node .nil (some (.nilslice)) .nil))) (some (.nilslice)) (.node (.node (.node .nil (some (.nilslice)) .nil) (some (.nilslice)) (.node .nil (some (.nilslice)) .nil)) (some (.nilslice)) (.node (.node .nil (some (.nilslice)) .nil) (some (.nilslice)) (.node .nil (some (.nilslice)) .nil))))) (some (.nilslice)) (.node (.node (.node (.node (.node .nil (some (.nilslice)) .nil) (some (.nilslice)) (.node .nil (some (.nilslice)) .nil)) (some (.nilslice)) (.node (.node .nil (some (.nilslice)) .nil) (some (.nilslice)) (.node .nil (some (.nilslice)) .nil))) (some (.nilslice)) (.node (.node (.node .nil (some (.nilslice)) .nil) (some (.nilslice)) (.node .nil (some (.nilslice)) .nil)) (some (.nilslice)) (.node (.node .nil (some (.nilslice)) .nil) (some (.nilslice)) (.node .nil (some (.nilslice)) .nil)))) (some (.nilslice)) (.node (.node (.node (.node .nil (some (.nilslice)) .nil) (some (.nilslice)) (.node .nil (some (.nilslice)) .nil)) (some (.nilslice)) (.node (.node .nil (some (.nilslice)) .nil) (some (.nilslice)) (.node .nil (some (.nilslice)) .nil))) (some (.nilslice)) (.node (.node (.node .nil (some (.nilslice)) .nil) (some (.nilslice)) (.node .nil (some (.nilslice)) .nil)) (some (.nilslice)) (.node (.node .nil (some (.nilslice)) .nil) (some (.nilslice)) (.node .nil (some (.nilslice)) .nil))))))),
 (435,.cells 205 64 (.node (.node (.node (.node (.node (.node (.node .nil (some (.nilslice)) .nil) (some (.nilslice)) .nil) (some (.nilslice)) (.node .nil (some (.nilslice)) .nil)) (some (.nilslice)) (.node (.node .nil (some (.nilslice)) .nil) (some (.nilslice)) (.node .nil (some (.nilslice)) .nil))) (some (.nilslice)) (.node (.node (.node .nil (some (.nilslice)) .nil) (some (.nilslice)) (.node .nil (some (.nilslice)) .nil)) (some (.nilslice)) (.node (.node .nil (some (.nilslice)) .nil) (some (.nilslice)) (.node .nil (some (.nilslice)) .nil)))) (some (.nilslice)) (.node (.node (.node (.node .nil (some (.nilslice)) .nil) (some (.nilslice)) (.node .nil (some (.nilslice)) .nil)) (some (.nilslice)) (.node (.node .nil (some (.nilslice)) .nil) (some (.nilslice)) (.node .nil (some (.nilslice)) .nil))) (some (.nilslice)) (.node (.node (.node .nil (some (.nilslice)) .nil) (some (.nilslice)) (.node .nil (some (.nilslice)) .nil)) (some (.nilslice)) (.node (.node .nil (some (.nilslice)) .nil) (some (.nilslice)) (.node .nil (some (.nilslice)) .nil))))) (some (.nilslice)) (.node (.node (.node (.node (.node .nil (some (.nilslice)) .nil) (some (.nilslice)) (.node .nil (some (.nilslice)) .nil)) (some (.nilslice)) (.node (.node .nil (some (.nilslice)) .nil) (some (.nilslice)) (.node .nil (some (.nilslice)) .nil))) (some (.nilslice)) (.node (.node (.node .nil (some (.nilslice)) .nil) (some (.nilslice)) (.node .nil (some (.nilslice)) .nil)) (some (.nilslice)) (.node (.node .nil (some (.nilslice)) .nil) (some (.nilslice)) (.node .nil (some (.nilslice)) .nil)))) (some (.nilslice)) (.node (.node (.node (.node .nil (some (.nilslice)) .nil) (some (.nilslice)) (.node .nil (some (.nilslice)) .nil)) (some (.nilslice)) (.node (.node .nil (some (.nilslice)) .nil) (some (.nilslice)) (.node .nil (some (.nilslice)) .nil))) (some (.nilslice)) (.node (.node (.node .nil (some (.nilslice)) .nil) (some (.nilslice)) (.node .nil (some (.nilslice)) .nil)) (some (.nilslice)) (.node (.node .nil (some (.nilslice)) .nil) (some (.nilslice)) (.node .nil (some (.nilslice)) .nil))))))),
 (629,.cells 313 1 (.node .nil (some (.ptr 303 0)) .nil)),
 (630,.cells 316 1 (.node .nil (some (.nilslice)) .nil)),
 (631,.cells 319 1 (.node .nil (some (.nilslice)) .nil)),
 (632,.cells 322 1 (.node .nil (some (.nilslice)) .nil)),
 (633,.cells 260 10 (.node (.node (.node (.node .nil (some (.nilslice)) .nil) (some (.nilslice)) .nil) (some (.ptr 300 0)) (.node (.node .nil (some (.ptr 632 0)) .nil) (some (.ptr 630 0)) .nil)) (some (.int .i64 (.ofNat 0))) (.node (.node (.node .nil (some (.nilslice)) .nil) (some (.ptr 629 0)) .nil) (some (.ptr 301 0)) (.node .nil (some (.ptr 631 0)) .nil))))]
def bS:G:=.ptr 633 0
def lv:Nat:=334
def Wn:Fact:=.make 102 [] 300 lv K8 bS
def lg:List (Nat×X):=[(362,.cells 29 32 (.node (.node (.node (.node (.node (.node .nil (some (.int .u8 (.ofNat 72))) .nil) (some (.int .u8 (.ofNat 138))) .nil) (some (.int .u8 (.ofNat 204))) (.node .nil (some (.int .u8 (.ofNat 5))) .nil)) (some (.int .u8 (.ofNat 72))) (.node (.node .nil (some (.int .u8 (.ofNat 163))) .nil) (some (.int .u8 (.ofNat 22))) (.node .nil (some (.int .u8 (.ofNat 154))) .nil))) (some (.int .u8 (.ofNat 67))) (.node (.node (.node .nil (some (.int .u8 (.ofNat 227))) .nil) (some (.int .u8 (.ofNat 205))) (.node .nil (some (.int .u8 (.ofNat 181))) .nil)) (some (.int .u8 (.ofNat 83))) (.node (.node .nil (some (.int .u8 (.ofNat 122))) .nil) (some (.int .u8 (.ofNat 183))) (.node .nil (some (.int .u8 (.ofNat 164))) .nil)))) (some (.int .u8 (.ofNat 58))) (.node (.node (.node (.node .nil (some (.int .u8 (.ofNat 96))) .nil) (some (.int .u8 (.ofNat 121))) (.node .nil (some (.int .u8 (.ofNat 215))) .nil)) (some (.int .u8 (.ofNat 8))) (.node (.node .nil (some (.int .u8 (.ofNat 244))) .nil) (some (.int .u8 (.ofNat 202))) (.node .nil (some (.int .u8 (.ofNat 219))) .nil))) (some (.int .u8 (.ofNat 198))) (.node (.node (.node .nil (some (.int .u8 (.ofNat 61))) .nil) (some (.int .u8 (.ofNat 132))) (.node .nil (some (.int .u8 (.ofNat 10))) .nil)) (some (.int .u8 (.ofNat 186))) (.node (.node .nil (some (.int .u8 (.ofNat 202))) .nil) (some (.int .u8 (.ofNat 127))) (.node .nil (some (.int .u8 (.ofNat 41))) .nil)))))),
 (363,.cells 96 2 (.node (.node .nil (some (.slice 362 0 1 1 true)) .nil) (some (.nilslice)) .nil))]
def rC:G:=.ptr 363 0
def Is:Nat:=64
def nh:Fact:=.make 22 [] 300 Is lg rC
def iA(l:List Fact)(t:List (Nat×X)):Env:=Qm prog specs l t
def u4(l:List Fact):Env:=iA l tabs
def E0:Env:=u4 []
def F:Nat:=1000000
def pe(p:List Nat×List Nat):Bool:=yT E0 F 228 300 [.ptr 300 0] 301 [(300,df p.1)] [(300,df p.2)] (.tuple []) (Nat.add 301 zb9)
def QX(i:Nat):Bool:=match Mu[i]? with|some p=>pe p|none=>false
def JS:Bool:=dN E0 F 102 [] 300 lv K8 bS
def uv:Bool:=dN (u4 V3) F 22 [] 300 Is lg rC
def ux:Bool:=JT (u4 (V3++[Wn,nh])) F 6 [] 300 (.bool true)
end
noncomputable section
def u8c(n:Nat):G:=.int .u8 (.ofNat n)
def qc(n:Nat):G:=.int .i64 (.ofNat n)
def J3(p:Nat->Bool)(l:Eb):Bool:=List.rec true (λa _ ih=>ifB (p a) ih false) l
def rng(a n:Nat):List Nat:=(List.range n).map λi=>Nat.add a i
def okI(lo hi:Int)(ok:Eb)(v:G):Bool:=match v with|.int k n=>L (Wt k) (L (kV (ilt n lo)) (kV (ilt hi n)))|.sym i=>fw i ok|_=>false
def words:List (List Nat):=[[98,97,110,107],[97,99,109,101],[122,111,111],[98,121],[114,101,97,100],[119,114,105,116,101],[114,117,110],[99,108,101,114,107],[97,117,100,105,116,111,114],[116,101,108,108,101,114],[104,114],[97],[98],[99,50],[120,95,49],[99,104,105,101,102],[110,117,114,115,101],[97,98,99,100,101,102,103,104,105,106,107,108],[97,98,99,100,101,102,103,104,105,106,107,108,109],[],[65],[50,110,100],[95,120],[97,45,98],[117,115,101,114,115],[97,110,100],[47],[47,97],[47,97,47,98],[47,97,47,98,47,99],[47,100],[47,100,47,101],[47,97,47,120],[47,102],[47,97,47],[47,65]]
def yd(l:Eb)(ws:List (List Nat)):Bool:=List.rec false (λa _ ih=>ifB (iP l a) true ih) ws
def okS(ok:Eb)(v:G):Bool:=match v with|.str l=>yd l words|.sym i=>fw i ok|_=>false
def okB(ok:Eb)(v:G):Bool:=match v with|.bool _=>true|.sym i=>fw i ok|_=>false
def zfi(v:G)(_:Heap):Bool:=okS [] v
def Mt(v:G)(_:Heap):Bool:=match v with|.agg [a,b,c]=>L (okS [] a) (L (okS [] b) (okB [] c))|_=>false
def Z5(E:Env)(f:Eu)(args:List G)(ok:G->Heap->Bool):Bool:=Z (qL E (kh E F) f args (jt E 300)) false λp=>ok p.1 p.2
def EN(l:List Fact):Env:=iA l []
def oY(f n:Nat):Bool:=Z5 (EN []) f [u8c n] zfi
def zcs(n:Nat):Bool:=Z5 (EN []) 183 [u8c n] Mt
structure Ask where
 sess:Bool
 act:Bool
 pth:Nat
def qx(b:Bool):G:=ifB b (.bool true) (.bool false)
def Ask.facts(x : Ask) : List Fact :=
  [.call 114 [.sym 105] (.sym 150), .call 115 [.sym 106] (.sym 151), .call 116 [.sym 105] (.sym 152), .bin .geq (.sym 104) (u8c 240) (qx x.sess), .bin .geq (.sym 105) (u8c 240) (qx x.act), .bin .geq (.sym 106) (u8c 240) (qx (Nat.blt x.pth 4)),
   .bin .rem (.sym 104) (u8c 4) (.sym 153), .conv .i64 (.sym 153) (.sym 154), .bin .add (qc 1) (.sym 154) (.sym 155), .conv .i64 (.sym 104) (.sym 156), .bin .sub (.sym 156) (qc 250) (.sym 157)] ++ ifB (Nat.blt x.pth 4) [.bin .rem (.sym 106) (u8c 4) (u8c x.pth)] []
def zcv(v:G)(_:Heap):Bool:=match v with|.agg [a,b,c]=>L (okI 1 0 [155,157] a) (L (okS [150,152] b) (okS [151] c))|_=>false
def xH(x:Ask):Bool:=Z5 (EN x.facts) 60 [.agg [.sym 104,.sym 105,.sym 106]] zcv
def asks:List Ask:=[false,true].flatMap λs=>[false,true].flatMap λa=>[0,1,2,3,4].map λp=>⟨s,a,p⟩
def zbp:Bool:=List.rec true (λx _ ih=>ifB (xH x) ih false) asks
structure Fl where
 k:Nat
 l:Nat
 why:Nat
def Mp(row opq k:Nat):G:=jY k (.sym opq) λ_=>.slice row 0 k k false
def Dt(a b c k:Nat):List Fact:=(List.range k).flatMap λi=>[.bin .rem (.sym (Nat.add a i)) (u8c 8) (.sym (Nat.add b i)),.conv .i64 (.sym (Nat.add b i)) (.sym (Nat.add c i))]
def ze2(w:Nat):List Fact:=ifB (Nat.beq w 4) [.eq 1 (.sym 117) (u8c 1) false,.eq 1 (.sym 117) (u8c 2) false,.eq 1 (.sym 117) (u8c 3) false] []
def Fl.facts(x : Fl) : List Fact :=
  [.slen (.sym 70) (.sym 122), .slen (.sym 71) (.sym 123), .min (.sym 122) (qc 4) (qc x.k), .min (.sym 123) (qc 4) (qc x.l), .ssub (.sym 70) (qc x.k) (Mp 60 80 x.k), .ssub (.sym 71) (qc x.l) (Mp 61 81 x.l),
   .slen (.sym 80) (qc 0), .slen (.sym 81) (qc 0), .bin .rem (.sym 107) (u8c 7) (ifB (Nat.blt x.why 4) (u8c x.why) (.sym 117)), .conv .i64 (.sym 117) (.sym 118), .call 183 [.sym 108] (.agg [.sym 119, .sym 120, .sym 121])]
  ++ (ze2 x.why ++ (Dt 72 124 132 x.k ++ Dt 76 128 136 x.l))
def Ik(row a k:Nat):List (Nat×X):=jY k [] λ_=>[(row,.view (M.ofList ((List.range k).map λi=>.sym (Nat.add a i))))]
def Fl.tabs(x:Fl):List (Nat×X):=Ik 60 72 x.k++Ik 61 76 x.l
def nb(w:Nat):G:=ifB (Nat.beq w 5) (.bool false) (.bool true)
def Qn:List G:=[.int .i64 (.ofNat 0),.nilslice,.nilslice,.int .u64 (.ofNat 0),.nilslice,.nilslice,.nilslice,.nilslice,.nilslice,.nilslice]
def Fl.args(x:Fl):List G:=[.agg [.sym 107,.sym 108,.sym 70,.sym 71,nb x.why],.agg Qn,.agg [.sym 114,.sym 115,.sym 116]]
def zgJ(v:G)(H:Heap):Bool:=
 match v with
 | .agg [a,c,d,p,q,b]=>L (okI 0 6 [118] a) (L (aO H c) (L (aO H d) (L (Tl c d) (L (okS [119] p) (L (okS [120] q) (okB [121] b))))))
 | _=>false
def gL(x:Fl):Bool:=L (zP x.tabs) (Z5 (iA x.facts x.tabs) 64 x.args zgJ)
def fls(k:Nat):List Fl:=(List.range 5).flatMap λl=>[1,2,3,4,5].map λw=>⟨k,l,w⟩
def bp(k:Nat):Bool:=List.rec true (λx _ ih=>ifB (gL x) ih false) (fls k)
def Ta(o:Nat):G:=jY o (.sym 103) λ_=>u8c o
def zgb(o:Nat):List Fact:=jY o ((List.range 10).map λi=>.eq 1 (.sym 103) (u8c (Nat.succ i)) false) λ_=>[]
def VM(ten odd : Nat) : List Fact :=
  [.bin .rem (.sym 101) (u8c 5) (.sym 110), .conv .i64 (.sym 110) (.sym 111), .bin .rem (.sym 100) (u8c 3) (u8c ten), .bin .rem (.sym 102) (u8c 32) (.sym 112), .conv .i64 (.sym 112) (.sym 113), .bin .add (.sym 144) (qc 1) (.sym 145),
   .call 60 [.agg [.sym 104, .sym 105, .sym 106]] (.agg [.sym 114, .sym 115, .sym 116])] ++ zgb odd
def Wv(m:Nat):G:=jY m (.sym 140) λm=>jY m (.bool false) λ_=>.bool true
def eK(m:Nat):G:=jY m (.bool true) λ_=>.bool false
def tF(odd mode:Nat)(why:G):List G:=[.agg [.sym 100,.sym 101,.sym 102,Ta odd,.sym 104,.sym 105,.sym 106,Wv mode,eK mode,.sym 107,.sym 108,.sym 70,.sym 71,why],.sym 144,.nilslice]
def uc(v:G)(H:Heap):Bool:=
 match v with
 | .agg [c0,c1,c2,c3,c4,c5,c6,c7,c8,c9,c10,c11,c12,c13]=>
  L (okI 1 0 [144,145] c0) (L (okI (-1) 4 [111] c1) (L (okS [] c2) (L (okI 1 0 [114] c3) (L (okS [115] c4) (L (okS [116] c5) (L (okI 0 30001 [113] c6) (L (okB [] c7) (L (okI 0 257 [118] c8)
   (L (aO H c9) (L (aO H c10) (L (Tl c9 c10) (L (okS [119] c11) (L (okS [120] c12) (okB [121] c13))))))))))))))
 | _=>false
def Wz(ten odd mode:Nat):Bool:=Z5 (EN (VM ten odd)) 24 (tF odd mode (.sym 141)) uc
def zf9(b q n:Nat):G:=jY n .nilslice λ_=>.osl b (.sym q)
def iI(b q n:Nat):List (Nat×X):=jY n [] λ_=>[(b,.ints 3 (.sym q))]
def cK(d:Nat):G:=jY d (.bool false) λd=>jY d (.bool true) λ_=>.sym 121
def Q9(u n d:Nat):Fact:=.make 64 [.agg [.sym 107,.sym 108,.sym 70,.sym 71,.sym 141],.agg Qn,.agg [.sym 114,.sym 115,.sym 116]] 300 2 (iI 300 142 u++iI 301 143 n) (.agg [.sym 118,zf9 300 142 u,zf9 301 143 n,.sym 119,.sym 120,cK d])
def EV(b0 b1:X)(l:List Fact):Env:=iA l (tabs++[(60,b0),(61,b1)])
def YZ(b0 b1:X)(ten odd u n d:Nat):Bool:=Z5 (EV b0 b1 (Q9 u n d::VM ten odd)) 24 (tF odd 2 (.sym 141)) uc
def Wy(ten:Nat)(x:Fl):Bool:=Z5 (iA (VM ten 6++x.facts) x.tabs) 24 (tF 6 2 (nb x.why)) uc
def jb(ten k:Nat):Bool:=List.rec true (λx _ ih=>ifB (Wy ten x) ih false) (fls k)
def xG(b0 b1:X)(ten odd:Nat):Bool:=
 ifB (Nat.beq odd 6) true (J3 (λu=>J3 (λn=>ifB (Nat.beq odd 9) (L (YZ b0 b1 ten odd u n 0) (YZ b0 b1 ten odd u n 1)) (YZ b0 b1 ten odd u n 2)) [0,1]) [0,1])
def dL(b0 b1:X)(ten:Nat):Bool:=J3 (xG b0 b1 ten) (List.range 11)
def dM(ten:Nat):Bool:=J3 (λodd=>L (Wz ten odd 0) (Wz ten odd 1)) (List.range 11)
end
noncomputable section
def u64c(n:Nat):G:=.int .u64 (.ofNat n)
def dm(l:List G)(v:G)(H:Heap):Bool:=
 match v with
 | .slice b o n cp _=>L (Nat.beq o 0) (L (Nat.ble 300 b) (L (Nat.beq n (je l 0)) (Z (H.row b) false λr=>L (Nat.beq r.t 5) (L (Nat.ble cp r.n) (L (Nat.ble n cp) (Z (M.Xu n r.c 0) false λcs=>yh cs l))))))
 | _=>false
def n9(q:Nat)(v:G)(H:Heap):Bool:=match v with|.osl b s=>L (Nat.ble 300 b) (L (qF s (.sym q)) (Z (H.blk.get b) false λk=>Z (bD k) false λp=>L (Nat.beq p.1 5) (qF p.2 s)))|_=>false
def lk(f:Eu)(args:List G)(q:Nat):Fact:=.make f args 300 1 [(300,.text 5 (.sym q))] (.osl 300 (.sym q))
def bU(q:Nat):Fact:=.eq 2 (.sym q) (.str []) false
def zbu(a b:G)(r n:Nat):List Fact:=[.bin .add a b (.sym r),.len (.sym r) (.sym n),.bin .gtr (.sym n) (.int .i64 (.ofNat 1000000000)) (.bool false)]
def Cs(b q n:Nat):G:=jY n .nilslice λ_=>.osl b (.sym q)
def jz(n m:Nat):List (Nat×X):=iI 60 70 n++iI 61 71 m
end
end Go.AEv
namespace Go.AuditPlain
def hi(v:Nat):List Nat:=if _h:v=0 then[] else hi (v / 128)++[v % 128+128]
termination_by v
decreasing_by exact div_lt_self (AZ _h) C
def put(v:Nat):List Nat:=hi (v / 128)++[v % 128]
def zig(v:Int):Nat:=if 0<=v then 2*v.toNat else 2*(-(v+1)).toNat+1
def qs(v:Int):List Nat:=put (zig v)
def zm(p:Eb):List Nat:=put p.length++p
def zT(b:Bool):List Nat:=if b then[1] else[0]
def qf(l:Eb):List Nat:=l.flatMap put
def numbers(l:Eb):List Nat:=put l.length++qf l
structure Rec where
 number:Nat
 version:Nat
 tenant:List Nat
 session:Int
 action:List Nat
 path:List Nat
 day:Nat
 granted:Bool
 user:Nat
 up:List Nat
 down:List Nat
 does:List Nat
 at_:List Nat
 deep:Bool
def Rec.bytes(r:Rec):List Nat:=
 put r.number++(put r.version++(zm r.tenant++(qs r.session++(zm r.action++(zm r.path++(put r.day++(zT r.granted ++
  (put r.user++(numbers r.up++(numbers r.down++(zm r.does++(zm r.at_++zT r.deep))))))))))))
def QL{v:Nat}(h:v≠0):hi v=hi (v / 128)++[v % 128+128]:=by
 rw[hi,dif_neg h]
def jT:hi 0=[]:=by rw[hi,dif_pos rfl]
end Go.AuditPlain
namespace Go.AEv
variable{k x y:Nat}
noncomputable section
def Xp:List (List Nat):=[[98,97,110,107],[97,99,109,101],[122,111,111],[114,101,97,100],[119,114,105,116,101],[114,117,110],[99,108,101,114,107],[97,117,100,105,116,111,114],[116,101,108,108,101,114],[104,114],[97],[98],[99,50],[120,95,49],[99,104,105,101,102],[110,117,114,115,101],[97,98,99,100,101,102,103,104,105,106,107,108]]
def Xm:List (List Nat):=[[47],[47,97],[47,97,47,98],[47,97,47,98,47,99],[47,100],[47,100,47,101],[47,97,47,120],[47,102]]
def zbn(f:Nat)(l:Eb)(b:Bool):Bool:=JT (EN []) F f [.str l] 300 (qx b)
def uu(f:Nat)(ok:List (List Nat)):Bool:=List.rec true (λl _ ih=>ifB (zbn f l (yd l ok)) ih false) words
end
def zib:uu 135 Xm=true:=U
def zj0:uu 69 Xm=true:=U
noncomputable section
def IF:List (FuncId×Spec):=(135,.fact)::(65,.fact)::(85,.fact)::(37,.fact)::(81,.fact)::(12,.fact)::(26,.fact)::(8,.fact)::(9,.fact)::(25,.fact)::(7,.fact)::(10,.fact)::(11,.fact)::specs
def J4(l:List Fact)(t:List (Nat×X)):Env:=Qm prog IF l t
namespace CK
def recC(g u v:G):G:=.agg [.sym 100,.sym 101,.sym 102,.sym 103,.sym 104,.sym 105,.sym 106,g,.sym 108,u,v,.sym 109,.sym 110,.sym 111]
def VD(n:Nat)(l:List Fact):List Fact:=Nat.rec (motive:=λ_=>List Fact->List Fact) (λ_=>[]) (λ_ ih l=>lC l [] λa m=>a::ih m) n l
def gW(c:Nat):List Fact:=[.call 76 [.sym 102] (qx (Nat.blt 0 c)),.bin .lss (.sym 103) (qc 1) (qx (Nat.beq c 1)),.call 76 [.sym 104] (qx (Nat.blt 2 c)),.call 135 [.sym 105] (qx (Nat.blt 3 c))]
def re(c : Nat) : List Fact :=
  [.eq 1 (.sym 108) (qc 0) (Nat.blt 4 c), .slen (.sym 70) (.sym 122), .slen (.sym 71) (.sym 123), .bin .add (.sym 122) (.sym 123) (.sym 124), .bin .gtr (.sym 124) (qc 0) (qx (Nat.beq c 5)),
   .eq 2 (.sym 109) (.str []) (Nat.blt 6 c), .eq 2 (.sym 110) (.str []) (Nat.blt 7 c), .eq 3 (.sym 111) (.bool false) (Nat.blt 8 c)]
def QQ(c:Nat):Nat:=Z (yG c [0,0,0,0,1,5,6,7,8,8]) 8 λn=>n
def ti(c:Nat):List Fact:=[.slen (.sym 70) (.sym 122),.slen (.sym 71) (.sym 123),.bin .gtr (.sym 122) (qc 63) (qx (Nat.beq c 9)),.bin .gtr (.sym 123) (qc 63) (qx (Nat.beq c 10)),.bin .lss (.sym 108) (qc 0) (.bool false),.bin .gtr (.sym 108) (qc 256) (.bool true)]
def VI(c:Nat):Nat:=ifB (Nat.beq c 9) 3 (ifB (Nat.beq c 10) 4 6)
def JA(c:Nat):List Fact:=ifB (Nat.blt c 4) (VD (Nat.succ c) (gW c)) (zX (gW c) (ifB (Nat.blt c 9) (VD (QQ c) (re c)) (VD (VI c) (ti c))))
def Xh(c:Nat):Bool:=Nat.ble 9 c
def eM(c:Nat):Nat:=Z (yG c [9,1,9,6,6,6,6,6,6,3,3,2]) 0 λn=>n
def JR(c:Nat):Bool:=JT (J4 (JA c) []) F 30 [recC (ifB (Nat.blt c 4) (.sym 107) (qx (Xh c))) (.sym 70) (.sym 71)] 300 (.int .i64 (.ofNat (eM c)))
def lsV(row k:Nat):G:=jY k .nilslice λ_=>.slice row 0 k k false
def lsT(row a k:Nat):List (Nat×X):=jY k [] λ_=>[(row,.cells 3 k (M.ofList ((List.range k).map λi=>.sym (Nat.add a i))))]
def elT(k l:Nat):List (Nat×X):=lsT 60 72 k++lsT 61 77 l
def el(k i:Nat):G:=ifB (Nat.blt i k) (.sym (Nat.add 72 i)) (.sym (Nat.add 77 (Nat.sub i k)))
def elF(k l j:Nat):List Fact:=(List.range (Nat.add k l)).flatMap λi=>ifB (Nat.ble i j) [.bin .lss (el k i) (qc 0) (.bool false),.bin .gtr (el k i) (qc 63) (qx (Nat.beq i j))] []
def userF:List Fact:=[.bin .lss (.sym 108) (qc 0) (.bool false),.bin .gtr (.sym 108) (qc 256) (.bool false)]
def iO(d:Bool):List Fact:=[.len (.sym 109) (.sym 120),.bin .gtr (.sym 120) (qc 12) (qx d),.len (.sym 110) (.sym 121),.bin .gtr (.sym 121) (qc 104) (.bool false)]
def Xr(k l j:Nat)(d:Bool):Nat:=ifB (Nat.blt j (Nat.add k l)) 2 (ifB d 3 0)
def kO(k l j:Nat)(d:Bool):List Fact:=zX (gW 4) (zX userF (zX (elF k l j) (ifB (Nat.beq j (Nat.add k l)) (iO d) [])))
def QN(k l j:Nat)(d:Bool):Bool:=L (zP (elT k l)) (JT (J4 (kO k l j d) (elT k l)) F 30 [recC (.bool true) (lsV 60 k) (lsV 61 l)] 300 (.int .i64 (.ofNat (Xr k l j d))))
def zD(k l:Nat):Bool:=L (J3 (λj=>QN k l j false) (List.range (Nat.succ (Nat.add k l)))) (QN k l (Nat.add k l) true)
def XV:List Fact:=zX (gW 4) (zX [.eq 1 (.sym 108) (qc 0) true,.eq 2 (.sym 109) (.str []) true,.eq 2 (.sym 110) (.str []) true,.eq 3 (.sym 111) (.bool false) true] (zX userF (iO false)))
def UO:Bool:=JT (J4 XV []) F 30 [recC (.bool false) .nilslice .nilslice] 300 (.int .i64 (.ofNat 0))
end CK
end
noncomputable section
namespace CH
open CK(VD recC lsV elT elF iO)
def re(c : Nat) : List Fact :=
  [.eq 1 (.sym 108) (qc 0) (Nat.blt 0 c), .slen (.sym 70) (.sym 122), .eq 1 (.sym 122) (qc 0) (Nat.blt 1 c), .slen (.sym 71) (.sym 123), .eq 1 (.sym 123) (qc 0) (Nat.blt 2 c),
   .eq 2 (.sym 109) (.str []) (Nat.blt 3 c), .eq 2 (.sym 110) (.str []) (Nat.blt 4 c)]
def QQ(c:Nat):Nat:=Z (yG c [1,3,5,6,7,7]) 7 λn=>n
def ti(c:Nat):List Fact:=[.slen (.sym 70) (.sym 122),.bin .gtr (.sym 122) (qc 63) (qx (Nat.beq c 6)),.slen (.sym 71) (.sym 123),.bin .gtr (.sym 123) (qc 63) (qx (Nat.beq c 7))]
def VI(c:Nat):Nat:=ifB (Nat.beq c 6) 2 4
def JA(c:Nat):List Fact:=ifB (Nat.blt c 6) (VD (QQ c) (re c)) (VD (VI c) (ti c))
def Xh(c:Nat):Bool:=Nat.ble 6 c
def eM(c:Nat):Nat:=ifB (Nat.blt c 6) 6 3
def zdk(c:Nat)(g u v:G):G:=.agg [.sym 100,.sym 101,.sym 102,.sym 103,.sym 104,.sym 105,.sym 106,g,.sym 108,u,v,.sym 109,.sym 110,ifB (Nat.beq c 5) (.bool true) (.sym 111)]
def JR(c:Nat):Bool:=JT (J4 (JA c) []) F 70 [zdk c (qx (Xh c)) (.sym 70) (.sym 71)] 300 (.int .i64 (.ofNat (eM c)))
def userF(u:Bool):List Fact:=[.bin .lss (.sym 108) (qc 0) (.bool false),.bin .gtr (.sym 108) (qc 256) (qx u)]
def BF(u d:Bool):List Fact:=zX (userF u) (ifB u [] (iO d))
def Xr(k l j:Nat)(u d:Bool):Nat:=ifB (Nat.blt j (Nat.add k l)) 2 (ifB u 2 (ifB d 3 0))
def kO(k l j:Nat)(u d:Bool):List Fact:=zX (elF k l j) (ifB (Nat.beq j (Nat.add k l)) (BF u d) [])
def QN(k l j:Nat)(u d:Bool):Bool:=L (zP (elT k l)) (JT (J4 (kO k l j u d) (elT k l)) F 70 [recC (.bool true) (lsV 60 k) (lsV 61 l)] 300 (.int .i64 (.ofNat (Xr k l j u d))))
def zD(k l:Nat):Bool:=L (J3 (λj=>QN k l j false false) (List.range (Nat.succ (Nat.add k l)))) (L (QN k l (Nat.add k l) false true) (QN k l (Nat.add k l) true false))
def XV:List Fact:=zX [.eq 1 (.sym 108) (qc 0) true,.eq 2 (.sym 109) (.str []) true,.eq 2 (.sym 110) (.str []) true] (BF false false)
def UO:Bool:=JT (J4 XV []) F 70 [.agg [.sym 100,.sym 101,.sym 102,.sym 103,.sym 104,.sym 105,.sym 106,.bool false,.sym 108,.nilslice,.nilslice,.sym 109,.sym 110,.bool false]] 300 (.int .i64 (.ofNat 0))
end CH
end
noncomputable section
namespace KP
def rounds:List Nat:=[0x0000000000000001,0x0000000000008082,0x800000000000808a,0x8000000080008000,0x000000000000808b,0x0000000080000001,0x8000000080008081,0x8000000000008009,0x000000000000008a,0x0000000000000088,0x0000000080008009,0x000000008000000a,0x000000008000808b,0x800000000000008b,0x8000000000008089,0x8000000000008003,0x8000000000008002,0x8000000000000080,0x000000000000800a,0x800000008000000a,0x8000000080008081,0x8000000000008080,0x0000000080000001,0x8000000080008008]
def turns:List Nat:=[0,1,62,28,27,36,44,6,55,20,3,10,43,25,39,41,45,15,21,8,18,2,61,56,14]
def tabs:List (Nat×X):=[(1,.cells 401 24 (M.ofList (rounds.map λn=>.int .u64 (Int.ofNat n)))),(2,.cells 403 25 (M.ofList (turns.map λn=>.int .i64 (Int.ofNat n))))]
def r5:List Nat:=List.range 5
def r25:List Nat:=List.range 25
def pos(i:Nat):Nat:=i / 5+5*((2*(i % 5)+3*(i / 5)) % 5)
def Q4(p:Nat):Nat:=(r25.filter λi=>pos i==p).headD 0
def DK:List (Nat×Nat×Nat):=
 (r5.flatMap λx=>[(x,x+5,25+4*x),(25+4*x,x+10,26+4*x),(26+4*x,x+15,27+4*x),(27+4*x,x+20,28+4*x)])
 ++ (r5.map λx=>(28+4*((x+4) % 5),45+(x+1) % 5,50+x))
 ++ (r25.map λi=>(i,50+i % 5,55+i))
 ++ (r25.map λp=>(80+Q4 p,130+p,if p=0 then 155 else 200+p))
def Fx:List (Nat×Nat×Nat):=(r5.map λy=>(28+4*y,1,45+y))++(r25.map λi=>(55+i,turns.getD i 0,80+i))
def FU:List (Nat×Nat):=r25.map λp=>(80+Q4 p,105+p)
def Ru:List (Nat×Nat×Nat):=r25.map λp=>(105+((p % 5+1) % 5+5*(p / 5)),80+Q4 ((p % 5+2) % 5+5*(p / 5)),130+p)
def iE(l:List (Nat×Nat×Nat)):M Nat:=l.foldl (λt e=>t.set (e.1*256+e.2.1) e.2.2) .nil
def BE(l:List (Nat×Nat)):M Nat:=l.foldl (λt e=>t.set e.1 e.2) .nil
def qZ(v:G):Option Nat:=match v with|.sym i=>some i|_=>none
def wG(v:G):Option Nat:=match v with|.int .u64 (.ofNat n)=>some n|_=>none
def zce(v:G):Option Nat:=match v with|.int .i64 (.ofNat n)=>some n|_=>none
def ziW(op:BinOp):Nat:=match op with|.xor=>1|.and=>2|_=>0
def inRound(i:Nat)(f:Nat->Nat->Option G):Option G:=ifB (Nat.ble 1000 i) (frc (Nat.sub i 1000) λd=>frc (Nat.div d 200) λr=>ifB (Nat.blt r 24) (frc (Nat.mod d 200) λo=>f r o) none) none
def Jj(r o:Nat):G:=.sym (Nat.add (Nat.add 1000 (Nat.mul 200 r)) o)
def lT(t:M Nat)(i j:Nat):Option G:=inRound i λr o=>inRound j λr' o'=>ifB (Nat.beq r r') (Z (t.get (Nat.add (Nat.mul o 256) o')) none λk=>some (Jj r k)) none
def zea(xt at_:M Nat)(rc:M Nat)(op:BinOp)(a b:G):Option G:=
 Z (qZ a) none λi=>frc (ziW op) λc=>ifB (Nat.beq c 1)
  (Z (qZ b) (Z (wG b) none λn=>inRound i λr o=>ifB (Nat.beq o 155) (Z (rc.get r) none λm=>ifB (Nat.beq n m) (some (Jj r 200)) none) none) λj=>lT xt i j)
  (ifB (Nat.beq c 2) (Z (qZ b) none λj=>lT at_ i j) none)
def gUn(t:M Nat)(op:UnOp)(a:G):Option G:=match op with|.xor=>Z (qZ a) none λi=>inRound i λr o=>Z (t.get o) none λk=>some (Jj r k)|_=>none
def Ps(f0:Eu)(t:M Nat)(f:Eu)(args:List G):Option G:=
 match args with
 | [a,b]=>ifB (Nat.beq f f0) (Z (qZ a) none λi=>Z (zce b) none λk=>ifB (Nat.blt k 64) (inRound i λr o=>Z (t.get (Nat.add (Nat.mul o 256) k)) none λm=>some (Jj r m)) none) none
 | _=>none
def facts:List Fact:=[.binF (zea (iE DK) (iE Ru) (M.ofList rounds)),.unF (gUn (BE FU)),.callF (Ps 277 (iE Fx))]
def E:Env:=Qm prog [(277,.fact)] facts tabs
def kJ(r:Nat):X:=.cells 300 25 (M.ofList (r25.map λi=>Jj r i))
def chk:Bool:=yT E 1000000 228 6000 [.ptr 6000 0] 6001 [(6000,kJ 0)] [(6000,kJ 24)] (.tuple []) 6049
end KP
end
namespace KP
abbrev W:Nat:=18446744073709551616
def rotl(w k:Nat):Nat:=(w*2 ^ k % W) ||| (w / 2 ^ (64-k))
def sS(w:Nat):Nat:=w ^^^ 18446744073709551615
def pc(s:Ek)(x j:Nat):Nat:=
 match j with
 | 0=>s x ^^^ s (x+5)
 | 1=>s x ^^^ s (x+5) ^^^ s (x+10)
 | 2=>s x ^^^ s (x+5) ^^^ s (x+10) ^^^ s (x+15)
 | _=>s x ^^^ s (x+5) ^^^ s (x+10) ^^^ s (x+15) ^^^ s (x+20)
def dv(s:Ek)(x:Nat):Nat:=pc s ((x+4) % 5) 3 ^^^ rotl (pc s ((x+1) % 5) 3) 1
def ew(s:Ek)(i:Nat):Nat:=s i ^^^ dv s (i % 5)
def bi(s:Ek)(i:Nat):Nat:=rotl (ew s i) (turns.getD i 0)
def nv(s:Ek)(p:Nat):Nat:=sS (bi s (Q4 p))
def av(s:Ek)(p:Nat):Nat:=nv s ((p % 5+1) % 5+5*(p / 5)) &&& bi s (Q4 ((p % 5+2) % 5+5*(p / 5)))
def xv(s:Ek)(p:Nat):Nat:=bi s (Q4 p) ^^^ av s p
def round(s:Ek)(c:Nat)(p:Nat):Nat:=if p=0 then xv s 0 ^^^ c else xv s p
def ov(s:Ek)(c o:Nat):Nat:=
 if o<25 then s o else if o<45 then pc s ((o-25) / 4) ((o-25) % 4) else if o<50 then rotl (pc s (o-45) 3) 1 else if o<55 then dv s (o-50) else if o<80 then ew s (o-55) else if o<105 then bi s (o-80)
 else if o<130 then nv s (o-105) else if o<155 then av s (o-130) else if o=155 then xv s 0 else round s c (o-200)
def kx{a b:Nat}(h1:a<W)(h2:b<W):a ^^^ b<W:=xor_lt_two_pow (n:=64) h1 h2
def Rt{a b:Nat}(h1:a<W):a &&& b<W:=AX Nat.and_le_left h1
def nE{w:Nat}(h:w<W):rotl w k<W:=by
 unfold rotl;exact or_lt_two_pow (n:=64) (Af _ C) (AX (div_le_self _ _) h)
section
variable{s:Ek}{c:Nat}(hs:∀i,s i<W)
include hs
theorem Cp(x j:Nat):pc s x j<W:=by
 unfold pc;split
 .exact kx (hs _) (hs _)
 .exact kx (kx (hs _) (hs _)) (hs _)
 .exact kx (kx (kx (hs _) (hs _)) (hs _)) (hs _)
 .exact kx (kx (kx (kx (hs _) (hs _)) (hs _)) (hs _)) (hs _)
theorem zco(x:Nat):dv s x<W:=kx (Cp hs _ _) (nE (Cp hs _ _))
theorem zcn(x:Nat):ew s x<W:=kx (hs _) (zco hs _)
theorem Re(x:Nat):bi s x<W:=nE (zcn hs _)
theorem zcb(x:Nat):nv s x<W:=kx (Re hs _) C
theorem zcu(x:Nat):av s x<W:=Rt (zcb hs _)
theorem Ib(x:Nat):xv s x<W:=kx (Re hs _) (zcu hs _)
theorem sk(hc:c<W)(p:Nat):round s c p<W:=by
 unfold round;split
 .exact kx (Ib hs _) hc
 .exact Ib hs _
theorem zf2(hc:c<W)(o:Nat):ov s c o<W:=by
 unfold ov;split
 .exact hs _
 .split
  .exact Cp hs _ _
  .split
   .exact nE (Cp hs _ _)
   .split
    .exact zco hs _
    .split
     .exact zcn hs _
     .split
      .exact Re hs _
      .split
       .exact zcb hs _
       .split
        .exact zcu hs _
        .split
         .exact Ib hs _
         .exact sk hs hc _
end
def st(ws:Ek):Nat->Nat->Nat
 | 0=>ws
 | r+1=>round (st ws r) (rounds.getD r 0)
def Mj(r:Nat):rounds.getD r 0<W:=by
 rcases LD r 24 with h|h
 .have:∀r,r<24->rounds.getD r 0<W:=by decide
  exact this r h
 .rw[Aq,Au (by exact h)];decide
def BP{ws:Ek}(h:∀i,ws i<W):∀r i,st ws r i<W
 | 0,i=>h i
 | r+1,i=>sk (BP h r) (Mj r) i
def word(ws:Ek)(r o:Nat):Nat:=ov (st ws r) (rounds.getD r 0) o
def J6{ws:Ek}(h:∀i,ws i<W)(r o:Nat):word ws r o<W:=zf2 (BP h r) (Mj r) o
def DU(ws:Ek)(r p:Nat)(hp:p<25):word ws (r+1) p=word ws r (200+p):=by
 unfold word ov;rw[Y hp,O I,O I,O I,O I,O I,O I,O I,O I,O I,LA];rfl
section
variable(s:Ek)(c:Nat)
def vX{o:Nat}(h:o<25):ov s c o=s o:=by unfold ov;rw[Y h]
def Ul{j:Nat}(hx:x<5)(a:j<4):ov s c (25+4*x+j)=pc s x j:=by
 unfold ov;rw[O I,Y I,show(25+4*x+j-25) / 4=x by omega,show(25+4*x+j-25) % 4=j by omega]
def zfZ(h:y<5):ov s c (45+y)=rotl (pc s y 3) 1:=by
 unfold ov;rw[O I,O I,Y I,LA]
def zf4(h:x<5):ov s c (50+x)=dv s x:=by
 unfold ov;rw[O I,O I,O I,Y I,LA]
def zf3{i:Nat}(h:i<25):ov s c (55+i)=ew s i:=by
 unfold ov;rw[O I,O I,O I,O I,Y I,LA]
def S6{i:Nat}(h:i<25):ov s c (80+i)=bi s i:=by
 unfold ov;rw[O I,O I,O I,O I,O I,Y I,LA]
def zf1{p:Nat}(h:p<25):ov s c (105+p)=nv s p:=by
 unfold ov;rw[O I,O I,O I,O I,O I,O I,Y I,LA]
def zf5{p:Nat}(h:p<25):ov s c (130+p)=av s p:=by
 unfold ov;rw[O I,O I,O I,O I,O I,O I,O I,Y I,LA]
def zfY:ov s c 155=xv s 0:=by
 unfold ov;rw[O I,O I,O I,O I,O I,O I,O I,O I,Y rfl]
def zf0(p:Nat):ov s c (200+p)=round s c p:=by
 unfold ov;rw[O I,O I,O I,O I,O I,O I,O I,O I,O I,LA]
end
def SY:(r25.all λp=>Nat.blt (Q4 p) 25)=true:=U
def vQ{p:Nat}(h:p<25):Q4 p<25:=by
 have:=Ad.1 SY p (Lr.2 h);simpa using this
def Fb:(turns.all λn=>Nat.blt n 64)=true:=U
def Ir(i:Nat):turns.getD i 0<64:=by
 rw[Aq]
 cases h:turns[i]? with
 | none=>decide
 | some n=>
  have:=Ad.1 Fb n (LX h);simpa using this
def cZ(s:Ek)(c:Nat):∀e∈DK,ov s c e.2.2=ov s c e.1 ^^^ ov s c e.2.1/\e.2.2<225/\e.2.1<200:=by
 intro e he;unfold DK at he;rcases LJ.1 he with he|he
 .rcases LJ.1 he with he|he
  .rcases LJ.1 he with he|he
   .obtain⟨x,hx,he⟩:=AE.1 he;have hx:=Lr.1 hx;simp only[Lf,Lq,Lo]at he;rcases he with rfl|rfl|rfl|rfl
    .refine⟨?_,by show 25+4*x<225;omega,by show x+5<200;omega⟩;show ov s c (25+4*x)=ov s c x ^^^ ov s c (x+5);rw[vX s c (show x<25 by omega),vX s c (show x+5<25 by omega)];exact Ul s c hx (j:=0) C
    .refine⟨?_,by show 26+4*x<225;omega,by show x+10<200;omega⟩;show ov s c (26+4*x)=ov s c (25+4*x) ^^^ ov s c (x+10);rw[show 26+4*x=25+4*x+1 by omega,vX s c (show x+10<25 by omega),Ul s c hx (j:=1) C,show ov s c (25+4*x)=pc s x 0 from Ul s c hx (j:=0) C];rfl
    .refine⟨?_,by show 27+4*x<225;omega,by show x+15<200;omega⟩;show ov s c (27+4*x)=ov s c (26+4*x) ^^^ ov s c (x+15);rw[show 27+4*x=25+4*x+2 by omega,show 26+4*x=25+4*x+1 by omega,vX s c (show x+15<25 by omega),Ul s c hx (j:=2) C,Ul s c hx (j:=1) C];rfl
    .refine⟨?_,by show 28+4*x<225;omega,by show x+20<200;omega⟩;show ov s c (28+4*x)=ov s c (27+4*x) ^^^ ov s c (x+20);rw[show 28+4*x=25+4*x+3 by omega,show 27+4*x=25+4*x+2 by omega,vX s c (show x+20<25 by omega),Ul s c hx (j:=3) C,Ul s c hx (j:=2) C];rfl
   .obtain⟨x,hx,rfl⟩:=Lv.1 he;have hx:=Lr.1 hx;refine⟨?_,by show 50+x<225;omega,by show 45+(x+1) % 5<200;omega⟩;show ov s c (50+x)=ov s c (28+4*((x+4) % 5)) ^^^ ov s c (45+(x+1) % 5);rw[zf4 s c hx,show 28+4*((x+4) % 5)=25+4*((x+4) % 5)+3 by omega,Ul s c (Af _ C) (j:=3) C,zfZ s c (Af _ C)];rfl
  .obtain⟨i,hi,rfl⟩:=Lv.1 he;have hi:=Lr.1 hi;refine⟨?_,by show 55+i<225;omega,by show 50+i % 5<200;omega⟩;show ov s c (55+i)=ov s c i ^^^ ov s c (50+i % 5);rw[zf3 s c hi,vX s c hi,zf4 s c (Af _ C)];rfl
 .obtain⟨p,hp,rfl⟩:=Lv.1 he;have hp:=Lr.1 hp;refine⟨?_,by show(if p=0 then 155 else 200+p)<225;split<;>omega,by show 130+p<200;omega⟩;show ov s c (if p=0 then 155 else 200+p)=ov s c (80+Q4 p) ^^^ ov s c (130+p);rw[S6 s c (vQ hp),zf5 s c hp];by_cases h:p=0
  .subst h;rw[Y rfl,zfY];rfl
  .rw[O h,zf0];unfold round;rw[O h];rfl
def Dz(s:Ek)(c:Nat):∀e∈Ru,ov s c e.2.2=ov s c e.1 &&& ov s c e.2.1/\e.2.2<225/\e.2.1<200:=by
 intro e he;obtain⟨p,hp,rfl⟩:=Lv.1 he;have hp:=Lr.1 hp;have h2:=vQ (p:=(p % 5+2) % 5+5*(p / 5)) I;refine⟨?_,by show 130+p<225;omega,by show 80+Q4 ((p % 5+2) % 5+5*(p / 5))<200;omega⟩;show ov s c (130+p)=ov s c (105+((p % 5+1) % 5+5*(p / 5))) &&& ov s c (80+Q4 ((p % 5+2) % 5+5*(p / 5)));rw[zf5 s c hp,zf1 s c I,S6 s c h2];rfl
def SH(s:Ek)(c:Nat):∀e∈Fx,ov s c e.2.2=rotl (ov s c e.1) e.2.1/\e.2.2<225/\e.2.1<64:=by
 intro e he;unfold Fx at he;rcases LJ.1 he with he|he
 .obtain⟨y,a,rfl⟩:=Lv.1 he;have a:=Lr.1 a;refine⟨?_,by show 45+y<225;omega,by show 1<64;omega⟩;show ov s c (45+y)=rotl (ov s c (28+4*y)) 1;rw[zfZ s c a,show 28+4*y=25+4*y+3 by omega,Ul s c a (j:=3) C]
 .obtain⟨i,hi,rfl⟩:=Lv.1 he;have hi:=Lr.1 hi;refine⟨?_,by show 80+i<225;omega,Ir i⟩;show ov s c (80+i)=rotl (ov s c (55+i)) (turns.getD i 0);rw[S6 s c hi,zf3 s c hi];rfl
def Tg(s:Ek)(c:Nat):∀e∈FU,ov s c e.2=sS (ov s c e.1)/\e.2<225:=by
 intro e he;obtain⟨p,hp,rfl⟩:=Lv.1 he;have hp:=Lr.1 hp;refine⟨?_,by show 105+p<225;omega⟩;show ov s c (105+p)=sS (ov s c (80+Q4 p));rw[zf1 s c hp,S6 s c (vQ hp)];rfl
def ej:∀(l:List (Nat×Nat×Nat)) (t:M Nat) {n k:Nat},(l.foldl (λt e=>t.set (e.1*256+e.2.1) e.2.2) t).get n=some k->(∃e∈l,e.1*256+e.2.1=n/\e.2.2=k)\/t.get n=some k
 | [],_,_,_,h=>.inr h
 | a::l,t,n,k,h=>by
  rcases ej l _ h with⟨e,he,h1⟩|h
  .exact .inl ⟨e,LP _ he,h1⟩
  .rw[M.zN]at h;split at h
   .rename_i e;cases h;exact .inl ⟨a,LG,e,rfl⟩
   .exact .inr h
def lh:∀(l:List (Nat×Nat)) (t:M Nat) {n k:Nat},(l.foldl (λt e=>t.set e.1 e.2) t).get n=some k->(∃e∈l,e.1=n/\e.2=k)\/t.get n=some k
 | [],_,_,_,h=>.inr h
 | a::l,t,n,k,h=>by
  rcases lh l _ h with⟨e,he,h1⟩|h
  .exact .inl ⟨e,LP _ he,h1⟩
  .rw[M.zN]at h;split at h
   .rename_i e;cases h;exact .inl ⟨a,LG,e,rfl⟩
   .exact .inr h
end KP
noncomputable section
namespace KP
def zc9(k:Nat):List Fact:=[.bin .shl (.sym 100) (.int .u64 (.ofNat k)) (.sym 101),.bin .shr (.sym 100) (.int .u64 (.ofNat (Nat.sub 64 k))) (.sym 102),.bin .or (.sym 101) (.sym 102) (.sym 103)]
def sm(k:Nat):Env:=Qm prog [] (zc9 k) []
def oZ(k:Nat):Bool:=Z (qL (sm k) (kh (sm k) 1000000) 277 [.sym 100,.int .i64 (.ofNat k)] (jt (sm k) 6000)) false λp=>qF p.1 (.sym 103)
def zda:Bool:=List.rec true (λk _ ih=>ifB (oZ k) ih false) (List.range 64)
end KP
end
def kpr:KP.zda=true:=U
noncomputable section
namespace KP
def mkI(k:Et)(n:Int):mkInt k n = .int k n:=by cases n<;>rfl
def Jx(h:x<W):QR .u64 (x:Nat)=x:=AA h
def WK(h:x<W):back .u64 x=(x:Nat):=by
 unfold back;rw[zo,zW,Y (show decide (x<half .u64)=true from Lx h)];rfl
def dy(hx:x<W)(a:y<W):YV .xor .u64 (x:Nat) .u64 (y:Nat)=some (.int .u64 ((x ^^^ y:Nat):Int)):=by
 show some (mkInt .u64 (back .u64 (Nat.xor (QR .u64 (x:Nat)) (QR .u64 (y:Nat)))))=_;rw[Jx hx,Jx a,mkI];have:Nat.xor x y<W:=kx hx a;rw[WK this];rfl
def CU(hx:x<W)(a:y<W):YV .and .u64 (x:Nat) .u64 (y:Nat)=some (.int .u64 ((x &&& y:Nat):Int)):=by
 show some (mkInt .u64 (back .u64 (land (QR .u64 (x:Nat)) (QR .u64 (y:Nat)))))=_;rw[Jx hx,Jx a,mkI];have:land x y<W:=Rt hx;rw[WK this];rfl
def fP(hx:x<W)(a:y<W):YV .or .u64 (x:Nat) .u64 (y:Nat)=some (.int .u64 ((x ||| y:Nat):Int)):=by
 show some (mkInt .u64 (back .u64 (lor (QR .u64 (x:Nat)) (QR .u64 (y:Nat)))))=_;rw[Jx hx,Jx a,mkI];have:lor x y<W:=or_lt_two_pow (n:=64) hx a;rw[WK this];rfl
def oC(a:k<=64):YV .shl .u64 (x:Nat) .u64 (k:Nat)=some (.int .u64 ((x*2 ^ k % W:Nat):Int)):=by
 show some (mkInt .u64 (Q1 .u64 (wU (x:Nat) (.ofNat (Nat.pow 2 (shN .u64 k))))))=_;have e:shN .u64 k=k:=by unfold shN;rw[zo,Y (by show Nat.ble k 64=true;exact Nat.ble_eq.mpr a)]
 rw[e,mkI];congr 2;unfold Q1;rw[show QR .u64 (wU (x:Nat) (.ofNat (Nat.pow 2 k)))=x*2 ^ k % W from rfl];exact WK (Af _ C)
def CT(a:k<=64):YV .shr .u64 (x:Nat) .u64 (k:Nat)=some (.int .u64 ((x / 2 ^ k:Nat):Int)):=by
 show some (mkInt .u64 (.ofNat (Nat.div x (Nat.pow 2 (shN .u64 k)))))=_;have e:shN .u64 k=k:=by unfold shN;rw[zo,Y (by show Nat.ble k 64=true;exact Nat.ble_eq.mpr a)]
 rw[e,mkI];rfl
section
variable[Unk]{N:Nat}{val:El}
def Zm(N:Nat)(val:El):Inj:=λid=>if 100<=id/\id<N then some (codeOf (val id)) else none
abbrev BN(N:Nat)(val:El):Inj:=zQ (Zm N val)
def ju:∀id z,Zm N val id=some z->id<N:=by
 intro id z h;unfold Zm at h;split at h
 .rename_i h1;exact h1.2
 .cases h
def lA{id:Nat}(h1:100<=id)(h2:id<N):BN N val id=some (codeOf (val id)):=by
 show zQ (Zm N val) id=_;unfold zQ Zm;rw[O I,Y ⟨h1,h2⟩]
def jd{id:Nat}(h1:100<=id)(h2:id<N):WF (BN N val) (.sym id):=by simp[WF,lA h1 h2]
def kp{id:Nat}{v:Ei}(h1:100<=id)(h2:id<N)(e:val id=v)(a:yc v=true):J (BN N val) (.sym id)=v:=by
 subst e;rw[J,lA h1 h2,LW,mP a]
def UH(hN:100<=N):∀id,N<=id->BN N val id=none:=by
 intro id h;show zQ (Zm N val) id=none;unfold zQ Zm;rw[O I,O I]
end
def W6{α:Type}{p:α->Bool}:∀ {l:List α},List.rec (motive:=λ_=>Bool) true (λx _ a=>ifB (p x) a false) l=true->∀x∈l,p x=true
 | [],_,x,hx=>by cases hx
 | b::l,h,x,hx=>by
  have h:ifB (p b) (List.rec (motive:=λ_=>Bool) true (λx _ a=>ifB (p x) a false) l) false=true:=h;rw[zo]at h;split at h
  .rename_i hb;rcases Lf.1 hx with rfl|hx
   .exact hb
   .exact W6 h x hx
  .cases h
def zc7(h:k<64):oZ k=true:=W6 (p:=oZ) (l:=List.range 64) kpr k (Lr.2 h)
def zc8(w k id:Nat):Value:=match id with|100=>.int .u64 (w:Nat)|101=>.int .u64 ((w*2 ^ k % W:Nat):Int)|102=>.int .u64 ((w / 2 ^ (64-k):Nat):Int)|_=>.int .u64 (rotl w k:Nat)
end KP
end
noncomputable section
namespace EN
open CK(lsV lsT elT el)
structure Sh where
 k:Nat
 l:Nat
 e1:Bool
 e2:Bool
 g:Bool
 dp:Bool
def txt(e:Bool)(s:Nat):G:=ifB e (.str []) (.sym s)
def Sh.arg(x:Sh):G:=.agg [.sym 100,.sym 101,.sym 102,.sym 103,.sym 104,.sym 105,.sym 106,qx x.g,.sym 108,lsV 60 x.k,lsV 61 x.l,txt x.e1 109,txt x.e2 110,qx x.dp]
def ZR(a u t:Nat):List Fact:=[.conv .u64 (.sym a) (.sym u),lk 86 [.sym u] t,bU t]
def lq(s n u t:Nat):List Fact:=[bU s,.len (.sym s) (.sym n),.conv .u64 (.sym n) (.sym u),lk 86 [.sym u] t,bU t]
def BM(e:Bool)(s n u t:Nat):List Fact:=ifB e [] (lq s n u t)
def zfC:List Fact:=[.conv .i64 (.sym 103) (.sym 103),.bin .lss (.sym 103) (qc 0) (.bool false),.conv .u64 (.sym 103) (.sym 154),.bin .mul (u64c 2) (.sym 154) (.sym 155),lk 86 [.sym 155] 162,bU 162]
def zgQ(x:Sh):List Fact:=(List.range (Nat.add x.k x.l)).flatMap λi=>[.conv .u64 (el x.k i) (.sym (Nat.add 190 i)),lk 86 [.sym (Nat.add 190 i)] (Nat.add 200 i),bU (Nat.add 200 i)]
def c1(n:Nat):G:=.str [n]
def SA(e:Bool)(t s:Nat):List G:=ifB e [c1 0] [.sym t,.sym s]
def PJ(a n:Nat):List G:=(List.range n).map λi=>.sym (Nat.add a i)
def Sh.pieces(x:Sh):List G:=
 zX [.sym 161,.sym 180,.sym 102,.sym 162,.sym 181,.sym 104,.sym 182,.sym 105,.sym 163,c1 (ifB x.g 1 0),.sym 164,c1 x.k] (zX (PJ 200 x.k) (zX [c1 x.l] (zX (PJ (Nat.add 200 x.k) x.l) (zX (SA x.e1 183 109) (zX (SA x.e2 184 110) [c1 (ifB x.dp 1 0)])))))
def NK(l:List G):G->Nat->List Fact:=
 List.rec (motive:=λ_=>G->Nat->List Fact) (λ_ _=>[]) (λp _ ih a r=>zX (zbu a p r (Nat.add r 40)) (ih (.sym r) (Nat.succ r))) l
def Sh.last(x:Sh):Nat:=Nat.add 211 (je x.pieces 0)
def Sh.facts(x:Sh):List Fact:=
 zX (ZR 100 150 160) (zX (ZR 101 151 161) (zX (ZR 106 152 163) (zX (ZR 108 153 164) (zX zfC (zX (lq 102 170 175 180) (zX (lq 104 171 176 181) (zX (lq 105 172 177 182) (zX (BM x.e1 109 173 178 183) (zX (BM x.e2 110 174 179 184)
  (zX [bU x.last,.len (.sym 160) (.sym 251),.bin .gtr (.sym 251) (.int .i64 (.ofNat 1000000000)) (.bool false)] (zX (zgQ x) (NK x.pieces (.sym 160) 212))))))))))))
def Sh.chk(x:Sh):Bool:=L (zP (elT x.k x.l)) (Z5 (J4 x.facts (elT x.k x.l)) 32 [x.arg] (n9 x.last))
def qt(k:Nat)(e1 e2 dp:Bool):Bool:=J3 (λl=>Sh.chk ⟨k,l,e1,e2,true,dp⟩) (List.range 6)
end EN
end
end Go.AEv
namespace Go.Proofs
open Go.Shelf
def Tryz.wL:Go.Shelf.Ren:=⟨λ|99=>225|206=>275|n=>n,λ|9=>9|4=>4|3=>3|n=>n,λ|n=>n⟩
def Tryz.zdS:Go.Proofs.Lays.n99 prog Tryz.wL:={
 mixed:=U
 f99:=Tryz.func225.trans (congrArg some U)
 f206:=Tryz.func275.trans (congrArg some U)
 t3:=underlying3
 a3:=isAgg3
 z3:=sizeOf3
 v3:=zeroValue3
 t4:=underlying4
 a4:=isAgg4
 z4:=sizeOf4
 v4:=zeroValue4
 t9:=underlying9
 a9:=isAgg9
 z9:=sizeOf9
 v9:=zeroValue9 }
open Go.RowKit Go.Lib in
def Tryz.strings_HasPrefix(s p : ByteArray)(w : World) :
    Calls prog 225 #[.string s, .string p] w λe w' => e = .returned (.bool (Lib.hasPrefix s.data.toList p.data.toList)) /\ w' = w := Any.strings_HasPrefix Tryz.zdS s p w
def Tryz.tz:Go.Shelf.Ren:=⟨λ|146=>226|221=>276|268=>321|138=>322|143=>323|195=>385|197=>386|218=>387|219=>388|260=>441|217=>442|225=>443|224=>444|267=>445|266=>469|314=>470|n=>n,λ|9=>9|31=>138|3=>3|4=>4|0=>0|105=>526|21=>21|5=>5|46=>246|119=>585|139=>588|138=>587|146=>589|51=>196|n=>n,λ|1=>0|3=>4|4=>5|n=>n⟩
def Tryz.Tz:Go.Proofs.Lays.n146 prog Tryz.tz:={
 mixed:=U
 f138:=Tryz.func322.trans (congrArg some U)
 f143:=Tryz.func323.trans (congrArg some U)
 f146:=Tryz.func226.trans (congrArg some U)
 f195:=Tryz.func385.trans (congrArg some U)
 f197:=Tryz.func386.trans (congrArg some U)
 f217:=Tryz.func442.trans (congrArg some U)
 f218:=Tryz.func387.trans (congrArg some U)
 f219:=Tryz.func388.trans (congrArg some U)
 f221:=Tryz.func276.trans (congrArg some U)
 f224:=Tryz.func444.trans (congrArg some U)
 f225:=Tryz.func443.trans (congrArg some U)
 f260:=Tryz.func441.trans (congrArg some U)
 f266:=Tryz.func469.trans (congrArg some U)
 f267:=Tryz.func445.trans (congrArg some U)
 f268:=Tryz.func321.trans (congrArg some U)
 f314:=Tryz.func470.trans (congrArg some U)
 t0:=underlying0
 a0:=isAgg0
 z0:=sizeOf0
 v0:=zeroValue0
 t3:=underlying3
 a3:=isAgg3
 z3:=sizeOf3
 v3:=zeroValue3
 t4:=underlying4
 a4:=isAgg4
 z4:=sizeOf4
 v4:=zeroValue4
 t5:=underlying5
 a5:=isAgg5
 z5:=sizeOf5
 v5:=zeroValue5
 t9:=underlying9
 a9:=isAgg9
 z9:=sizeOf9
 v9:=zeroValue9
 t21:=underlying21
 a21:=isAgg21
 z21:=sizeOf21
 v21:=zeroValue21
 t31:=underlying138
 a31:=isAgg138
 z31:=sizeOf138
 v31:=zeroValue138
 t46:=underlying246
 a46:=isAgg246
 z46:=sizeOf246
 v46:=zeroValue246
 t51:=underlying196
 a51:=isAgg196
 z51:=sizeOf196
 v51:=zeroValue196
 t105:=underlying526
 a105:=isAgg526
 z105:=sizeOf526
 v105:=zeroValue526
 t119:=underlying585
 a119:=isAgg585
 z119:=sizeOf585
 t138:=underlying587
 a138:=isAgg587
 z138:=sizeOf587
 v138:=zeroValue587
 t139:=underlying588
 a139:=isAgg588
 z139:=sizeOf588
 v139:=zeroValue588
 t146:=underlying589
 a146:=isAgg589
 z146:=sizeOf589
 v146:=zeroValue589
 g1:=U
 g3:=U
 g4:=by kernel_rfl }
open Go.RowKit Go.Lib in
def Tryz.strings_Split(s sep : ByteArray)(m : Int)(w : World)(hs : s.size < 4294967281)(hm : w.cell? ⟨0, 0, none⟩ = some (.int .i64 m))(h1 : 1 <= sep.size) :
    Calls prog 226 #[.string s, .string sep] w λe w' =>
      e = .returned (.slice (some ⟨w.heap.size, 0, none⟩) (Lib.countB s sep + 1) (Lib.countB s sep + 1)) /\ w' = w.alloc (.cells ((Lib.splitB sep 0 (Lib.countB s sep) s).map Value.string).toArray 9) := Any.strings_Split Tryz.Tz U s sep m w hs hm h1
end Go.Proofs
namespace Go.Proofs.YtaffhpgaagnjfaaGreatDoor
open Go.RowKit
def zam{l m:Eb}{k:Nat}(hl:l.length=m.length)(h:∀j,j<k->l.getD j 0=m.getD j 0)(a:k=l.length):l=m:=by
 subst a;apply AF;intro i;rcases LD i l.length with hi|hi
 .have e:=h i hi;simp only[Aq,Ly hi,Ly (hl ▸ hi:i<m.length),LW]at e ⊢;rw[e]
 .rw[Au hi,Au (hl ▸ hi)]
def eq6(l m:Eb)(b o c b' o' c':Nat)(w:Ea)(hbig:l.length<=9223372036854775807)(hbig2:m.length<=9223372036854775807)
  (hc1:∀j,j<l.length->w.cell? ⟨b,o+j,none⟩=some (.int .u8 (l.getD j 0:Nat))) (hc2:∀j,j<m.length->w.cell? ⟨b',o'+j,none⟩=some (.int .u8 (m.getD j 0:Nat))) :
  Calls prog 16 #[.slice (some ⟨b,o,none⟩) l.length c,.slice (some ⟨b',o',none⟩) m.length c'] w λe w2=>e = .returned (.bool (decide (l=m)))/\∃q,w2=w.drewN q:=by
 have mixed:Tryz.prog.follows .mixedOrders=true:=U;by_cases hnm:l.length=m.length
 .generalize hn:m.length=n at hnm hbig2 hc2;generalize hn':l.length=n' at hnm hbig hc1;subst hnm;go_enter func16,ntmps16
  go_wp2
  go_loopg [13] n' (λg s13 wr=>∃k q:Nat,k<=n'/\n'-k<=g/\s13 = .int .i64 k/\wr=w.drewN q/\∀j,j<k->l.getD j 0=m.getD j 0)
  case atStart=>exact⟨0,0,zero_le _,I,rfl,rfl,λj hj=>Ld hj (not_lt_zero _)⟩
  case round=>
   obtain⟨k,q,hk,hg,rfl,rfl,heq⟩:=hrel;by_cases hlt:k<n'
   .have g1:w.cell? ⟨b,o+k,none⟩=some (.int .u8 (l.getD k 0:Nat)):=hc1 k I;have g2:w.cell? ⟨b',o'+k,none⟩=some (.int .u8 (m.getD k 0:Nat)):=hc2 k I;have A:Aside (∀j,j<k->l.getD j 0=m.getD j 0):=heq;have A2:Aside (l.length=n'/\m.length=n'):=⟨hn',hn⟩
    clear heq hc1 hc2 hn hn';generalize hxk:l.getD k 0=x at g1;generalize hyk:m.getD k 0=y at g2;have B:Aside (l.getD k 0=x/\m.getD k 0=y):=⟨hxk,hyk⟩
    clear hxk hyk;by_cases hxy:x=y
    .subst hxy;go_wp2_with fail
     go_region_o
     go_wp2
     go_roundg (n'-(k+1))
     case measure=>omega
     case rel=>
      refine⟨k+1,q+1,I,I,by go_num,rfl,λj hj=>?_⟩;by_cases e:j=k
      .subst e;rw[B.out.1,B.out.2]
      .exact A.out j I
    .go_wp2_with fail
     go_region_o
     go_wp2
     go_ret
     refine⟨?_,q+1,rfl⟩;have:l≠m:=λe=>hxy (by rw[<- B.out.1,<- B.out.2,e]);simp[this]
   .have:k=n':=by omega
    subst this;clear hc1 hc2;go_wp2;go_ret
    refine⟨?_,q,rfl⟩;simp[zam (hn'.trans hn.symm) heq hn'.symm]
 .have hnm':¬(l.length:Int)=(m.length:Int):=by omega
  clear hc1 hc2;have hne:l≠m:=λe=>hnm (by rw[e]);go_enter func16,ntmps16;go_wp2
  go_ret
  refine⟨?_,0,rfl⟩;simp[hne]
open Go
def wz(os:Os):((laidAll prog os Rows.auditReadsRow.laid).forCall (λ_ _=>0) ⟨#[],#[.slice none 0 0,.int .u16 0,.int .u8 0],[]⟩).variablesZipB prog=true:=U
def wh(os:Os):(((laidAll prog os Rows.auditReadsRow.laid).forCall (λ_ _=>0) ⟨#[],#[.slice none 0 0,.int .u16 0,.int .u8 0],[]⟩).heap.toList.drop Tryz.prog.globals.size).take ((begin prog (λ_ _=>0) default).world.heap.size-Tryz.prog.globals.size)=(begin prog (λ_ _=>0) default).world.heap.toList.drop Tryz.prog.globals.size:=U
open Go
def wo(os:Os):Input.okWideB prog ((laidAll prog os Rows.auditReadsRow.laid).forCall (λ_ _=>0) ⟨#[],#[.slice none 0 0,.int .u16 0,.int .u8 0],[]⟩) 5 ⟨#[],#[.slice none 0 0,.int .u16 0,.int .u8 0],[]⟩=true:=U
def wp(os:Os)(H:Type)(enc:TypeId×Value->H):Rows.auditReadsSpec.preB enc prog f5 [] false ((laidAll prog os Rows.auditReadsRow.laid).forCall (λ_ _=>0) ⟨#[],#[.slice none 0 0,.int .u16 0,.int .u8 0],[]⟩).memory #[.slice none 0 0,.int .u16 0,.int .u8 0] 8=true:=U
def ws(os:Os)(H:Type)(enc:TypeId×Value->H):Rows.auditReadsSpec.sizedB enc prog f5 false ((laidAll prog os Rows.auditReadsRow.laid).forCall (λ_ _=>0) ⟨#[],#[.slice none 0 0,.int .u16 0,.int .u8 0],[]⟩).memory #[.slice none 0 0,.int .u16 0,.int .u8 0] 8=true:=U
open Go
def wf(os:Os):(holding prog os ⟨#[],#[],[]⟩).layFits prog Rows.auditReadsRow.laid []=true:=U
def wi(os:Os):(holding prog os ⟨#[],#[],[]⟩).layIfaces prog Rows.auditReadsRow.laid (laidAll prog os Rows.auditReadsRow.laid)=true:=U
def wn:(Rows.auditReadsRow.laid.all λx=>x.2.handleName?.isNone)=true:=U
end Go.Proofs.YtaffhpgaagnjfaaGreatDoor
