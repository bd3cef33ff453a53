/- Contracts and lemmas: Open RowK Ex Lit Ex19 Vec11 Bnd Dual Cs20. Conditions: as each says. -/
import Derived.Test.YtbhfhkcdfmmmiaaGreatDoorRows
import Derived.Test.YtbhfhkcdfmmmiaaGreatDoorBoolsZd
import Derived.ProofKit
import Derived.OpenShut
import Derived.JoinedCond
import Derived.Deep.Slices
import Derived.Deep.Grids
import Derived.Test.YtbhfhkcdfmmmiaaGreatDoorCards
import Derived.Test.YtbhfhkcdfmmmiaaGreatDoorTie
import Derived.ChangeSame
import Derived.ChangeVars
import Derived.LaidLaws
import Derived.LaidHandle
import Derived.Stop.Joined
import Derived.Deep.DeepHandedRow
import Derived.SevenTiedAt
import Derived.Test.YtbhfhkcdfmmmiaaGreatDoorLaw2Zd
import Derived.Laws.Small
set_option linter.all false
set_option maxHeartbeats 4000000
set_option maxRecDepth 100000
namespace Go.Proofs.YtbhfhkcdfmmmiaaGreatDoor
open Go.ChangeShapes Go.WideShapes Go.ChangeAt Go.RowKit Go.Deep
variable {xs:List Int}{rows:List PRow}{cost x ys:List Rat}{cs:List Value}{b fuel k n:Nat}{p:PRow}{a t:Rat}{W w:World}
theorem own:ownKnob Tryz.prog.godebug=none:=by kernel_rfl
theorem zqj:laidOutB Tryz.prog=true:=by kernel_rfl
theorem zkC:Tryz.prog.cellsOf 114=2:=by kernel_rfl
theorem zKC:Tryz.prog.cellsOf 116=4:=by kernel_rfl
theorem zwz:Tryz.prog.cellsOf 3=1:=by kernel_rfl
theorem zLd:Tryz.prog.cellsOf 73=1:=by kernel_rfl
theorem zKr:Tryz.prog.cellsOf 22=1:=by kernel_rfl
theorem zK3:Tryz.prog.cellsOf 23=1:=by kernel_rfl
theorem zLt:Tryz.prog.cellsOf 25=2:=by kernel_rfl
theorem zmS(b o k:Nat):(⟨b,o,none⟩:Addr).add k=⟨b,o+k,none⟩:=by unfold Addr.add;split<;>simp_all
theorem zuZ{α:Type}{Q:Nat→α→Prop}:∀n:Nat,(∀i,i<n→∃x,Q i x)→∃l:List α,l.length=n∧∀i x,l[i]? = some x→Q i x
 | 0,_=>⟨[],rfl,fun i x h=>by simp at h⟩
 | n+1,h=>by
  obtain⟨l,b,c⟩:=zuZ n (fun i f=>h i (by omega));obtain⟨x,e⟩:=h n (by omega);refine⟨l++[x],by simp[b],fun i y a=>?_⟩;rcases Nat.lt_trichotomy i l.length with h1 | h1 | h1
  ·rw[List.getElem?_append_left h1]at a;exact c i y a
  ·subst h1;rw[List.getElem?_append_right (Nat.le_refl _)]at a;simp at a;subst a;rw[b];exact e
  ·rw[List.getElem?_eq_none (by simp;omega)]at a;cases a
theorem zDM{H:Type}(d:DataW H):1≤Rows.uptoBulk d:=by
 cases d with
 | lit l=>cases l<;>simp[Rows.uptoBulk]
 | nil=>simp[Rows.uptoBulk]
 | ptr d=>simp[Rows.uptoBulk]
 | slice elems spare=>simp[Rows.uptoBulk]
 | agg parts=>simp[Rows.uptoBulk]
 | iface t d=>simp[Rows.uptoBulk]
 | map entries=>simp[Rows.uptoBulk]
 | held h=>simp[Rows.uptoBulk]
theorem zKR{H:Type}{d:DataW H}{l:List (DataW H)}(h:d∈l):Rows.uptoBulk d≤Rows.uptoBulkAll l:=by
 induction l with
 | nil=>cases h
 | cons x r ih =>
  simp only[Rows.uptoBulkAll];cases List.mem_cons.1 h with
  | inl e=>subst e;omega
  | inr e=>have:=ih e;omega
theorem zoK{H:Type}(l:List (DataW H)):l.length≤Rows.uptoBulkAll l:=by
 induction l with
 | nil=>simp[Rows.uptoBulkAll]
 | cons x r ih=>have:=zDM x;simp only[Rows.uptoBulkAll,List.length_cons];omega
theorem i64_of{x:Int}(h:(Lit.int .i64 x).wf=true):I64 x:=by
 simp[Lit.wf,IntKind.min,IntKind.max,IntKind.signed,IntKind.bits]at h;exact⟨h.1,h.2⟩
section
variable {H:Type} {enc:TypeId × Value→H} {W:World} {base:Nat} {sp:Nat→Bool} {held:Bool}
theorem zAH{x:DataW H × List MemPlace}(h:DataW.trod enc Tryz.prog W base sp held fuel 114 cs=some x):∃a b:Int,cs=[.int .i64 a,.int .i64 b]∧I64 a∧I64 b:=by
 obtain⟨ys,j,_,_,i,k,hg⟩:=DataW.trod_struct Tryz.underlying114 h;rw[zkC]at i
 match cs,i with
 | [c0,c1],_ =>
  have c:DataW.trod enc Tryz.prog W base sp held j 3 ([c0,c1].take (Tryz.prog.cellsOf 3))=ys[0]?:=hg 0 _ rfl;have e:DataW.trod enc Tryz.prog W base sp held j 3 ([c1].take (Tryz.prog.cellsOf 3))=ys[1]?:=hg 1 _ rfl;rw[zwz]at c e;have o:ys.length=2:=k;rw[List.getElem?_eq_getElem (show 0<ys.length by omega)]at c;rw[List.getElem?_eq_getElem (show 1<ys.length by omega)]at e;obtain⟨a,f,_,l⟩:=DataW.trod_int Tryz.underlying3 c;obtain⟨b,g,_,m⟩:=DataW.trod_int Tryz.underlying3 e;simp at f g;subst f g
  exact⟨a,b,rfl,i64_of l,i64_of m⟩
theorem zrv{x:DataW H × List MemPlace}(h:DataW.trod enc Tryz.prog W base sp held fuel 22 cs=some x) :
  ∃(A:OA) (n cp:Nat) (ps:List (Int × Int)),cs=[.slice A n cp]∧n=ps.length∧zcs W A ps∧n≤cp∧cp≤9223372036854775807∧n≤Rows.uptoBulk x.1:=by
 rcases open_slice Tryz.underlying22 h with ⟨f,t⟩ | ⟨a,len,cap,m,q,D,O,f,_,E,hm,r,t,p⟩
 ·exact⟨none,0,0,[],f,rfl,fun k y K=>by simp at K,Nat.le_refl _,by decide,Nat.zero_le _⟩
 ·have M:0<len→a.spot=none:=by
   intro h0;obtain⟨z,l,_⟩:=p 0 (by rw[r];split<;>omega);rw[zkC]at l;obtain⟨_,R,B⟩:=World.cells?_some l;have g:=B 0 (by omega);rw[List.getElem?_eq_getElem (show 0<z.length by omega)]at g;have:=World.cell?_spot g;simpa[Addr.add]using this
  have L:∀i,i<len→∃y:Int × Int,I64 y.1∧I64 y.2∧∃b o,some a=some ⟨b,o,none⟩∧W.cell? ⟨b,o+i*2,none⟩=some (.int .i64 y.1)∧W.cell? ⟨b,o+i*2+1,none⟩=some (.int .i64 y.2):=by
   intro i S;have C:i<m:=by rw[r];split<;>omega
   obtain⟨P,hc,J⟩:=p i C;rw[zkC]at hc;obtain⟨_,Q,j⟩:=World.cells?_some hc;obtain⟨u,v,rfl,wu,N⟩:=zAH J;have c:=j 0 (by omega);have e:=j 1 (by omega);simp only[List.getElem?_cons_zero,List.getElem?_cons_succ]at c e;have I:=M (by omega);obtain⟨b,o,s⟩:=a;obtain rfl:s=none:=I;rw[zmS,zmS]at c e;exact⟨(u,v),wu,N,b,o,rfl,c,e⟩
  obtain⟨ps,F,G⟩:=zuZ len L;refine⟨some a,len,cap,ps,f,F.symm,G,E,by unfold maxLen at hm;omega,?_⟩;have h1:=zoK ((List.range len).map D);rw[List.length_map,List.length_range]at h1;rw[t];simp only[Rows.uptoBulk];omega
theorem zLz{x:DataW H × List MemPlace}(h:DataW.trod enc Tryz.prog W base sp held fuel 23 cs=some x)(hb:Rows.uptoBulk x.1≤1048576) :
  ∃(A:OA) (n cp:Nat) (e:List LineV),cs=[.slice A n cp]∧n=e.length∧zex W A e∧n≤cp∧cp≤9223372036854775807:=by
 rcases open_slice Tryz.underlying23 h with ⟨B,L⟩ | ⟨a,len,cap,m,q,D,Pl,B,_,X,hm,K,L,J⟩
 ·exact⟨none,0,0,[],B,rfl,fun k y M=>by simp at M,Nat.le_refl _,by decide⟩
 ·have ag:0<len→a.spot=none:=by
   intro h0;obtain⟨P,I,_⟩:=J 0 (by rw[K];split<;>omega);rw[zKC]at I;obtain⟨_,an,R⟩:=World.cells?_some I;have F:=R 0 (by omega);rw[List.getElem?_eq_getElem (show 0<P.length by omega)]at F;have:=World.cell?_spot F;simpa[Addr.add]using this
  have af:∀i,i<len→∃y:LineV,y.coef.length≤1048576∧I64 y.rhs.1∧I64 y.rhs.2∧∃b o C cc,some a=some ⟨b,o,none⟩∧zcs W C y.coef ∧
    W.cell? ⟨b,o+i*4,none⟩=some (.slice C y.coef.length cc)∧W.cell? ⟨b,o+i*4+1,none⟩=some (.int .i64 y.kind)∧W.cell? ⟨b,o+i*4+2,none⟩=some (.int .i64 y.rhs.1)∧W.cell? ⟨b,o+i*4+3,none⟩=some (.int .i64 y.rhs.2):=by
   intro i U;have V:i<m:=by rw[K];split<;>omega
   obtain⟨O,hc,ht⟩:=J i V;rw[zKC]at hc;obtain⟨_,S,c⟩:=World.cells?_some hc;obtain⟨ys,E,_,ad,_,ae,hg⟩:=DataW.trod_struct Tryz.underlying116 ht
   match O,S with
   | [c0,c1,c2,c3],_ =>
    have r:DataW.trod enc Tryz.prog W base sp held E 22 ([c0,c1,c2,c3].take (Tryz.prog.cellsOf 22))=ys[0]?:=hg 0 _ rfl;have t:DataW.trod enc Tryz.prog W base sp held E 73 ([c1,c2,c3].take (Tryz.prog.cellsOf 73))=ys[1]?:=hg 1 _ rfl;have z:DataW.trod enc Tryz.prog W base sp held E 114 ([c2,c3].take (Tryz.prog.cellsOf 114))=ys[2]?:=hg 2 _ rfl;rw[zKr]at r;rw[zLd]at t;rw[zkC]at z;have M:ys.length=3:=ae;rw[List.getElem?_eq_getElem (show 0<ys.length by omega)]at r
    rw[List.getElem?_eq_getElem (show 1<ys.length by omega)]at t;rw[List.getElem?_eq_getElem (show 2<ys.length by omega)]at z;obtain⟨C,nC,N,ps,h0,Z,T,_,_,am⟩:=zrv r;obtain⟨kd,h1,_,_⟩:=DataW.trod_int Tryz.underlying73 t;obtain⟨u,v,G,wu,wv⟩:=zAH z;simp at h0 h1 G;obtain⟨rfl,rfl⟩:=G;subst h0 h1;have Q:D i=.agg (ys.map (·.1)):=(Prod.mk.inj ad).1;have b1:Rows.uptoBulk (D i)≤Rows.uptoBulk x.1:=by
     have:=zKR (d:=D i) (l:=(List.range len).map D) (List.mem_map.2 ⟨i,List.mem_range.2 U,rfl⟩);rw[L];simp only[Rows.uptoBulk];omega
    have b2:Rows.uptoBulk ys[0].1≤Rows.uptoBulk (D i):=by
     have:=zKR (d:=ys[0].1) (l:=ys.map (·.1)) (List.mem_map.2 ⟨ys[0],List.getElem_mem _,rfl⟩);rw[Q];simp only[Rows.uptoBulk];omega
    have f:=c 0 (by omega);have g:=c 1 (by omega);have j:=c 2 (by omega);have p:=c 3 (by omega);simp only[List.getElem?_cons_zero,List.getElem?_cons_succ]at f g j p;have ab:=ag (by omega);obtain⟨b,o,s⟩:=a;obtain rfl:s=none:=ab;rw[zmS,zmS]at f g j p;subst Z;exact⟨⟨ps,kd,(u,v)⟩,by show ps.length≤1048576;omega,wu,wv,b,o,C,N,rfl,T,f,g,j,p⟩
  obtain⟨e,Y,hq⟩:=zuZ len af;exact⟨some a,len,cap,e,B,Y.symm,hq,X,by unfold maxLen at hm;omega⟩
end
open Err (HandleV)
theorem et:Tryz.prog.globalNamed "errors.errorType" = some 0:=by kernel_rfl
theorem rt:(Tryz.prog.cutTypes.find? (·.1 == "internal/reflectlite.rtype")).map (·.2)=some 188:=by kernel_rfl
theorem size:Tryz.prog.types.size=270:=by kernel_rfl
theorem zDL:((List.range 270).filter fun t=>Tryz.prog.rowNamed t [101,114,114,111,114])=[39]:=by kernel_rfl
theorem zlF(h:laidMetH Tryz.prog Rows.dualPrimalUptoRow.laid W):W.cell? ⟨0,0,none⟩=some HandleV:=by
 have g:laidMet Tryz.prog [] W∧handlesMet Tryz.prog Rows.dualPrimalUptoRow.laid W:=h;obtain⟨j,u,k,b,c,e,f,a⟩:=g.2 _ (List.mem_singleton.2 rfl);have en:j=[101,114,114,111,114]:=(Option.some.inj b).symm;subst en;obtain rfl:=Option.some.inj (rt.symm.trans c);have hm:k∈(List.range 270).filter fun t=>Tryz.prog.rowNamed t [101,114,114,111,114]:=List.mem_filter.2 ⟨List.mem_range.2 (by rw[←size];exact e),f⟩
 rw[zDL]at hm;obtain rfl:=List.mem_singleton.1 hm;have i:typeHandle Tryz.prog 39=.pointer (some ⟨1,39,none⟩):=by kernel_rfl
 rw[i]at a;simpa using World.var?_cell et a 0
noncomputable def laidWorld (os:Os):World :=
 let w0:=World.holding Tryz.prog os ⟨#[],#[],[]⟩
 { w0 with heap:=w0.heap.modify 0 fun
   | .cells _ t frozen=>.cells #[HandleV] t frozen
   | o=>o }
theorem znG(os:Os)(args:Array Value):laidMetH Tryz.prog Rows.dualPrimalUptoRow.laid ((laidWorld os).forCall (fun _ _=>0) ⟨#[],args,[]⟩).memory :=
 laidMetH_of_parts (laidMet_nil _ _) (by kernel_rfl)
theorem zMj{H:Type}{enc:TypeId × Value→H}{base:Nat}{sp:Nat→Bool}{held:Bool}{x:DataW H × List MemPlace}(h:DataW.trod enc Tryz.prog W base sp held fuel 25 cs=some x)(C:Rows.uptoBulk x.1≤1048576) :
  ∃(A:OA) (b cA:Nat) (L:OA) (c a:Nat) (qs:List (Int × Int)) (e:List LineV),cs=[.slice A b cA,.slice L c a]∧zcs W A qs∧zex W L e∧b=qs.length∧c=e.length∧b≤cA∧c≤a∧cA≤9223372036854775807∧a≤9223372036854775807:=by
 obtain⟨zs,m,_,z,k,B,hg⟩:=DataW.trod_struct Tryz.underlying25 h;rw[zLt]at k
 match cs,k with
 | [c0,c1],_ =>
  have f:DataW.trod enc Tryz.prog W base sp held m 22 ([c0,c1].take (Tryz.prog.cellsOf 22))=zs[0]?:=hg 0 _ rfl;have g:DataW.trod enc Tryz.prog W base sp held m 23 ([c1].take (Tryz.prog.cellsOf 23))=zs[1]?:=hg 1 _ rfl;rw[zKr]at f;rw[zK3]at g;have E:zs.length=2:=B;rw[List.getElem?_eq_getElem (show 0<zs.length by omega)]at f;rw[List.getElem?_eq_getElem (show 1<zs.length by omega)]at g;have q:x.1=.agg (zs.map (·.1)):=by rw[z]
  have D:Rows.uptoBulk zs[1].1≤Rows.uptoBulk x.1:=by
   have:=zKR (d:=zs[1].1) (l:=zs.map (·.1)) (List.mem_map.2 ⟨zs[1],List.getElem_mem _,rfl⟩);rw[q];simp only[Rows.uptoBulk];omega
  obtain⟨A,b,cA,qs,i,t,r,u,o,_⟩:=zrv f;obtain⟨L,c,a,e,j,hm,s,v,p⟩:=zLz g (by omega);simp at i j;subst i j;exact⟨A,b,cA,L,c,a,qs,e,rfl,r,s,t,hm,u,v,o,p⟩
open Go.RowKit Am
open Lib (hid)
def zhx (x:Int):List Rat:=rats [x,1]
def zcY:List PRow:=[⟨rats [1,2],2,((4:Int):Rat)⟩,⟨rats [3,1],1,((9:Int):Rat)⟩]
theorem zAg:(zdi (zaC 4 (zc3 zcY) [2,3] (zjD (zhx 1) zcY)) (List.replicate 4 true)).isNone=true:=by decide +kernel
theorem zAh:(zdi (zaC 4 (zc3 zcY) [2,3] (zjD (zhx (-1)) zcY)) (List.replicate 4 true)).isNone=false:=by decide +kernel
def zBW:RunOut:=pivs (zbE 4 (zc3 zcY) (zg8 zcY) (zjD (zhx 1) zcY) (List.replicate 4 true)) 9 [2,3]
theorem zHy:zBW.err=false:=by decide +kernel
theorem zJ8:zBW.at_=none:=by decide +kernel
theorem e_n:zBW.n=1:=by decide +kernel
theorem zJ9:(zh1 4 zBW.cols (za5 (zc3 zcY) (zg8 zcY) zBW.cols)).take 2=rats [0,2]:=by decide +kernel
theorem zqg(w:World)(a b:Int):∀(j:Nat) (x:Int),[a,b][j]? = some x→(w.alloc (.cells #[.int .i64 a,.int .i64 b] 3)).cell? ⟨w.heap.size,j,none⟩=some (.int .i64 x):=by
 intro j x h
 match j,h with
 | 0,h=>simp at h;subst h;exact zax rfl rfl
 | 1,h=>simp at h;subst h;exact zax rfl rfl
 | j+2,h=>simp at h
theorem zyt(e:w.heap.size=b)(a c:Int):∀(j:Nat) (x:Int),[a,c][j]? = some x→(w.alloc (.cells #[.int .i64 a,.int .i64 c] 3)).cell? ⟨b,j,none⟩=some (.int .i64 x):=by
 subst e;exact zqg w a c
theorem zuW(h:∀(j:Nat) (x:Int),xs[j]? = some x→w.cell? ⟨b,j,none⟩=some (.int .i64 x)):∀(j:Nat) (x:Int),xs[j]? = some x→w.drew.cell? ⟨b,j,none⟩=some (.int .i64 x):=h
theorem zAV{o:Obj}(h:∀(j:Nat) (x:Int),xs[j]? = some x→w.cell? ⟨b,j,none⟩=some (.int .i64 x)):∀(j:Nat) (x:Int),xs[j]? = some x→(w.alloc o).cell? ⟨b,j,none⟩=some (.int .i64 x):=fun j x a=>cell_al (h j x a)
theorem zoX{u:World}(i:u.heap.size=b){r r':RR}{p':PRow}(h:RowS u r p)(f:RowS u r' p'):RowsS (u.alloc (.cells #[r.c,.int .i64 r.k,.bool r.g,r.s,r.d,r'.c,.int .i64 r'.k,.bool r'.g,r'.s,r'.d] 75)) 0 (.slice (some ⟨b,0,none⟩) 2 2) [p,p']:=by
 subst i;have j:=World.ownsRow_lit (e:=75) (size:=5) (base:=0) u #[r.c,.int .i64 r.k,.bool r.g,r.s,r.d,r'.c,.int .i64 r'.k,.bool r'.g,r'.s,r'.d] 2 (Nat.zero_le _) (by decide) rfl;refine⟨[r,r'],rfl,?_,j⟩;intro k m l h1 a
 match k,h1,a with
 | 0,h1,a=>simp at h1 a;subst h1 a;exact h.below (zae u _)
 | 1,h1,a=>simp at h1 a;subst h1 a;exact f.below (zae u _)
 | k+2,h1,_=>simp at h1
attribute [local go_sem ↓] Go.wp_at_zero Go.wp_at_succ
theorem RowsS.setX{H:Nat}{v:Value}{ps:List PRow}(h:RowsS w H v ps){a:Addr}{t:TypeId}{cs:Array Value}(hg:w.heap[a.block]? = some (.cells cs t (0,0)))(h1:184≠t)(f:49≠t)(g:75≠t)(u:Value):RowsS (w.setCell a u) H v ps:=by
 obtain⟨l,b,c,e⟩:=h.row;exact(RowsL.setT (l:=l) ⟨b,c,e⟩ hg h1 f g u).toS
namespace Lw
theorem zuN(w:World):Calls Tryz.prog 20 #[.int .i64 1] w fun e w'=>∃(C:OA) (m:Nat) (R:OA) (o:Nat),e=.returned (.agg #[.slice C 2 m,.slice R 2 o])∧VecS w' 0 (.slice C 2 m) (zhx (1))∧RowsS w' 0 (.slice R 2 o) zcY∧Below w.heap.size w w':=by
 obtain⟨W,j⟩:∃W,(w.alloc (.cells #[(),()] 31))=W:=⟨_,rfl⟩
 have J:=hid (show W.heap[w.heap.size]? = some (.cells #[(),()] 31 (0,0))by rw[←j];exact zam (by simp));have l:=hid (show Below w.heap.size w W by rw[←j];exact zae w _);go_enter Tryz.func20,Tryz.ntmps20;go_wp2_with fail
 clear j;have q:=zae W (.cells #[.int .i64 1,.int .i64 1] 3);have O:=hid (zad q J.out);have g:=hid (l.out.trans ((q).mono l.out.size));with_reducible refine(Vc.of W.heap.size 2 2 [1,1] _ rfl (zqg W (1) (1)) (by decide) (by decide) (by decide)).mono ?_
 rintro e w1 ⟨S1,ns1,cs1,rfl,hv,hb⟩;have N:=hid (show(w1.alloc (.cells #[.int .i64 1,.int .i64 2] 3)).heap[w.heap.size]? = some (.cells #[(),()] 31 (0,0))from zak (zad hb O.out));have F:=hid (show VecS (w1.alloc (.cells #[.int .i64 1,.int .i64 2] 3)) 0 (S1,ns1,cs1) (rats [1,1])from((hv.base (Nat.zero_le _))).alloc _)
 have s:=hid (show Below w.heap.size w (w1.alloc (.cells #[.int .i64 1,.int .i64 2] 3))from((g.out.trans ((hb).mono g.out.size))).alloc ((g.out.trans ((hb).mono g.out.size))).size _);clear hv hb;go_wp2_with fail
 with_reducible refine(Vc.of w1.heap.size 2 2 [1,2] _ rfl (zqg w1 (1) (2)) (by decide) (by decide) (by decide)).mono ?_
 rintro e L ⟨S2,ns2,cs2,rfl,hv,hb⟩;have P:=hid (zad hb N.out);have ag:=hid (F.out.below hb);have G:=hid (show VecS L 0 (S2,ns2,cs2) (rats [1,2])from(hv.base (Nat.zero_le _)));have i:=hid (s.out.trans ((hb).mono s.out.size));clear hv hb;go_wp2_with fail
 with_reducible refine(Rt.int 4 (by decide) (by decide) _).mono ?_
 rintro e c ⟨g3,A3,m3,c3,D3,md3,cd3,rfl,hn,hb⟩;have Q:=hid (show(c.alloc (.cells #[.int .i64 3,.int .i64 1] 3)).heap[w.heap.size]? = some (.cells #[(),()] 31 (0,0))from zak (zad hb P.out));have ah:=hid (show VecS (c.alloc (.cells #[.int .i64 3,.int .i64 1] 3)) 0 (S1,ns1,cs1) (rats [1,1])from(ag.out.below hb).alloc _);have aa:=hid (show VecS (c.alloc (.cells #[.int .i64 3,.int .i64 1] 3)) 0 (S2,ns2,cs2) (rats [1,2])from(G.out.below hb).alloc _)
 have B:=hid (show RatS (c.alloc (.cells #[.int .i64 3,.int .i64 1] 3)) g3 (A3,m3,c3) (D3,md3,cd3) ((4:Int):Rat)from(hn).alloc _);have t:=hid (show Below w.heap.size w (c.alloc (.cells #[.int .i64 3,.int .i64 1] 3))from((i.out.trans ((hb).mono i.out.size))).alloc ((i.out.trans ((hb).mono i.out.size))).size _);clear hn hb;go_wp2_with fail
 with_reducible refine(Vc.of c.heap.size 2 2 [3,1] _ rfl (zqg c (3) (1)) (by decide) (by decide) (by decide)).mono ?_
 rintro e M ⟨S4,ns4,cs4,rfl,hv,hb⟩;have S:=hid (zad hb Q.out);have ai:=hid (ah.out.below hb);have ab:=hid (aa.out.below hb);have ae:=hid (B.out.below hb);have I:=hid (show VecS M 0 (S4,ns4,cs4) (rats [3,1])from(hv.base (Nat.zero_le _)));have u:=hid (t.out.trans ((hb).mono t.out.size));clear hv hb;go_wp2_with fail
 with_reducible refine(Rt.int 9 (by decide) (by decide) _).mono ?_
 rintro e b ⟨g5,A5,m5,c5,D5,md5,cd5,rfl,hn,hb⟩;have T:=hid (zad hb S.out);have A:=hid (ai.out.below hb);have ac:=hid (ab.out.below hb);have af:=hid (ae.out.below hb);have ad:=hid (I.out.below hb);have D:=hid (show RatS b g5 (A5,m5,c5) (D5,md5,cd5) ((9:Int):Rat)from hn);have z:=hid (u.out.trans ((hb).mono u.out.size));clear hn hb;obtain rfl:2=ns1:=A.out.len.symm
 have k:=zae b (.cells #[(S2,ns2,cs2),.int .i64 2,g3,(A3,m3,c3),(D3,md3,cd3),(S4,ns4,cs4),.int .i64 1,g5,(A5,m5,c5),(D5,md5,cd5)] 75);have f:=hid (zad k T.out);have aj:=hid (A.out.below k)
 have E:=hid (show RowsS (b.alloc (.cells #[(S2,ns2,cs2),.int .i64 2,g3,(A3,m3,c3),(D3,md3,cd3),(S4,ns4,cs4),.int .i64 1,g5,(A5,m5,c5),(D5,md5,cd5)] 75)) 0 (.slice (some ⟨b.heap.size,0,none⟩) 2 2) zcY from(zoX rfl (r:=⟨.slice S2 ns2 cs2,2,g3,.slice A3 m3 c3,.slice D3 md3 cd3⟩) (r':=⟨.slice S4 ns4 cs4,1,g5,.slice A5 m5 c5,.slice D5 md5 cd5⟩) (p:=⟨rats [1,2],2,((4:Int):Rat)⟩) (p':=⟨rats [3,1],1,((9:Int):Rat)⟩) ⟨ac.out,rfl,af.out⟩ ⟨ad.out,rfl,D.out⟩))
 have Z:=hid (z.out.trans ((k).mono z.out.size));obtain⟨X,U,ak,_,Y,V,al,_⟩:=bf2 f.out;go_wp2;refine bodyPost_ret (v:=.agg #[.slice S1 2 cs1,.slice (some ⟨b.heap.size,0,none⟩) 2 2]) (by simp[results,Tryz.results20,go_sem,X,U,Y,V]) rfl ?_;have h1:=(aj.out.setT (p:=⟨w.heap.size,0,none⟩) f.out (by decide) (by decide) (.slice S1 2 cs1)).setT (p:=⟨w.heap.size,1,none⟩) (zar _ f.out) (by decide) (by decide) (.slice (some ⟨b.heap.size,0,none⟩) 2 2)
 have K:=(E.out.setX (a:=⟨w.heap.size,0,none⟩) f.out (by decide) (by decide) (by decide) (.slice S1 2 cs1)).setX (a:=⟨w.heap.size,1,none⟩) (zar _ f.out) (by decide) (by decide) (by decide) (.slice (some ⟨b.heap.size,0,none⟩) 2 2);exact⟨S1,cs1,some ⟨b.heap.size,0,none⟩,2,rfl,h1,K,bsc (bsc Z.out)⟩
theorem zuM(w:World):Calls Tryz.prog 20 #[.int .i64 (-1)] w fun e w'=>∃(C:OA) (m:Nat) (R:OA) (o:Nat),e=.returned (.agg #[.slice C 2 m,.slice R 2 o])∧VecS w' 0 (.slice C 2 m) (zhx (-1))∧RowsS w' 0 (.slice R 2 o) zcY∧Below w.heap.size w w':=by
 obtain⟨W,j⟩:∃W,(w.alloc (.cells #[(),()] 31))=W:=⟨_,rfl⟩
 have J:=hid (show W.heap[w.heap.size]? = some (.cells #[(),()] 31 (0,0))by rw[←j];exact zam (by simp));have l:=hid (show Below w.heap.size w W by rw[←j];exact zae w _);go_enter Tryz.func20,Tryz.ntmps20;go_wp2_with fail
 clear j;have q:=zae W (.cells #[.int .i64 (-1),.int .i64 1] 3);have O:=hid (zad q J.out);have g:=hid (l.out.trans ((q).mono l.out.size));with_reducible refine(Vc.of W.heap.size 2 2 [-1,1] _ rfl (zqg W (-1) (1)) (by decide) (by decide) (by decide)).mono ?_
 rintro e w1 ⟨S1,ns1,cs1,rfl,hv,hb⟩;have N:=hid (show(w1.alloc (.cells #[.int .i64 1,.int .i64 2] 3)).heap[w.heap.size]? = some (.cells #[(),()] 31 (0,0))from zak (zad hb O.out));have F:=hid (show VecS (w1.alloc (.cells #[.int .i64 1,.int .i64 2] 3)) 0 (S1,ns1,cs1) (rats [-1,1])from((hv.base (Nat.zero_le _))).alloc _)
 have s:=hid (show Below w.heap.size w (w1.alloc (.cells #[.int .i64 1,.int .i64 2] 3))from((g.out.trans ((hb).mono g.out.size))).alloc ((g.out.trans ((hb).mono g.out.size))).size _);clear hv hb;go_wp2_with fail
 with_reducible refine(Vc.of w1.heap.size 2 2 [1,2] _ rfl (zqg w1 (1) (2)) (by decide) (by decide) (by decide)).mono ?_
 rintro e L ⟨S2,ns2,cs2,rfl,hv,hb⟩;have P:=hid (zad hb N.out);have ag:=hid (F.out.below hb);have G:=hid (show VecS L 0 (S2,ns2,cs2) (rats [1,2])from(hv.base (Nat.zero_le _)));have i:=hid (s.out.trans ((hb).mono s.out.size));clear hv hb;go_wp2_with fail
 with_reducible refine(Rt.int 4 (by decide) (by decide) _).mono ?_
 rintro e c ⟨g3,A3,m3,c3,D3,md3,cd3,rfl,hn,hb⟩;have Q:=hid (show(c.alloc (.cells #[.int .i64 3,.int .i64 1] 3)).heap[w.heap.size]? = some (.cells #[(),()] 31 (0,0))from zak (zad hb P.out));have ah:=hid (show VecS (c.alloc (.cells #[.int .i64 3,.int .i64 1] 3)) 0 (S1,ns1,cs1) (rats [-1,1])from(ag.out.below hb).alloc _);have aa:=hid (show VecS (c.alloc (.cells #[.int .i64 3,.int .i64 1] 3)) 0 (S2,ns2,cs2) (rats [1,2])from(G.out.below hb).alloc _)
 have B:=hid (show RatS (c.alloc (.cells #[.int .i64 3,.int .i64 1] 3)) g3 (A3,m3,c3) (D3,md3,cd3) ((4:Int):Rat)from(hn).alloc _);have t:=hid (show Below w.heap.size w (c.alloc (.cells #[.int .i64 3,.int .i64 1] 3))from((i.out.trans ((hb).mono i.out.size))).alloc ((i.out.trans ((hb).mono i.out.size))).size _);clear hn hb;go_wp2_with fail
 with_reducible refine(Vc.of c.heap.size 2 2 [3,1] _ rfl (zqg c (3) (1)) (by decide) (by decide) (by decide)).mono ?_
 rintro e M ⟨S4,ns4,cs4,rfl,hv,hb⟩;have S:=hid (zad hb Q.out);have ai:=hid (ah.out.below hb);have ab:=hid (aa.out.below hb);have ae:=hid (B.out.below hb);have I:=hid (show VecS M 0 (S4,ns4,cs4) (rats [3,1])from(hv.base (Nat.zero_le _)));have u:=hid (t.out.trans ((hb).mono t.out.size));clear hv hb;go_wp2_with fail
 with_reducible refine(Rt.int 9 (by decide) (by decide) _).mono ?_
 rintro e b ⟨g5,A5,m5,c5,D5,md5,cd5,rfl,hn,hb⟩;have T:=hid (zad hb S.out);have A:=hid (ai.out.below hb);have ac:=hid (ab.out.below hb);have af:=hid (ae.out.below hb);have ad:=hid (I.out.below hb);have D:=hid (show RatS b g5 (A5,m5,c5) (D5,md5,cd5) ((9:Int):Rat)from hn);have z:=hid (u.out.trans ((hb).mono u.out.size));clear hn hb;obtain rfl:2=ns1:=A.out.len.symm
 have k:=zae b (.cells #[(S2,ns2,cs2),.int .i64 2,g3,(A3,m3,c3),(D3,md3,cd3),(S4,ns4,cs4),.int .i64 1,g5,(A5,m5,c5),(D5,md5,cd5)] 75);have f:=hid (zad k T.out);have aj:=hid (A.out.below k)
 have E:=hid (show RowsS (b.alloc (.cells #[(S2,ns2,cs2),.int .i64 2,g3,(A3,m3,c3),(D3,md3,cd3),(S4,ns4,cs4),.int .i64 1,g5,(A5,m5,c5),(D5,md5,cd5)] 75)) 0 (.slice (some ⟨b.heap.size,0,none⟩) 2 2) zcY from(zoX rfl (r:=⟨.slice S2 ns2 cs2,2,g3,.slice A3 m3 c3,.slice D3 md3 cd3⟩) (r':=⟨.slice S4 ns4 cs4,1,g5,.slice A5 m5 c5,.slice D5 md5 cd5⟩) (p:=⟨rats [1,2],2,((4:Int):Rat)⟩) (p':=⟨rats [3,1],1,((9:Int):Rat)⟩) ⟨ac.out,rfl,af.out⟩ ⟨ad.out,rfl,D.out⟩))
 have Z:=hid (z.out.trans ((k).mono z.out.size));obtain⟨X,U,ak,_,Y,V,al,_⟩:=bf2 f.out;go_wp2;refine bodyPost_ret (v:=.agg #[.slice S1 2 cs1,.slice (some ⟨b.heap.size,0,none⟩) 2 2]) (by simp[results,Tryz.results20,go_sem,X,U,Y,V]) rfl ?_;have h1:=(aj.out.setT (p:=⟨w.heap.size,0,none⟩) f.out (by decide) (by decide) (.slice S1 2 cs1)).setT (p:=⟨w.heap.size,1,none⟩) (zar _ f.out) (by decide) (by decide) (.slice (some ⟨b.heap.size,0,none⟩) 2 2)
 have K:=(E.out.setX (a:=⟨w.heap.size,0,none⟩) f.out (by decide) (by decide) (by decide) (.slice S1 2 cs1)).setX (a:=⟨w.heap.size,1,none⟩) (zar _ f.out) (by decide) (by decide) (by decide) (.slice (some ⟨b.heap.size,0,none⟩) 2 2);exact⟨S1,cs1,some ⟨b.heap.size,0,none⟩,2,rfl,h1,K,bsc (bsc Z.out)⟩
end Lw
def zlz:List Rat→List Rat→Int
  | [],[]=>0
  | [],_::_ => -1
  | _::_,[]=>1
  | a::xs,b::ys=>if zlX a b=0 then zlz xs ys else zlX a b
theorem zot:∀xs ys:List Rat,zlz xs ys=0↔xs=ys
 | [],[]=>by simp[zlz]
 | [],_::_=>by simp[zlz]
 | _::_,[]=>by simp[zlz]
 | a::xs,b::ys=>by
  unfold zlz;by_cases h:zlX a b=0
  ·rw[if_pos h,zot xs ys,(zkD a b).1 h];simp
  ·rw[if_neg h];constructor
   ·intro e;exact absurd e h
   ·intro e;injection e with e1 _;exact absurd ((zkD a b).2 e1) h
theorem zuu{xs:List Rat}{b:Rat}(c:xs[k]? = some a)(e:ys[k]? = some b):zlz (xs.drop k) (ys.drop k)=if zlX a b=0 then zlz (xs.drop (k+1)) (ys.drop (k+1))else zlX a b:=by
 have h1:xs.drop k=a::xs.drop (k+1):=by
  rw[List.drop_eq_getElem_cons (List.getElem?_eq_some_iff.1 c).1,(List.getElem?_eq_some_iff.1 c).2]
 have f:ys.drop k=b::ys.drop (k+1):=by
  rw[List.drop_eq_getElem_cons (List.getElem?_eq_some_iff.1 e).1,(List.getElem?_eq_some_iff.1 e).2]
 rw[h1,f,zlz]
theorem zwD{xs:List Rat}(h:k=min xs.length ys.length):zlz (xs.drop k) (ys.drop k)=if xs.length<ys.length then -1 else if ys.length<xs.length then 1 else 0:=by
 rcases Nat.lt_trichotomy xs.length ys.length with h1 | h1 | h1
 ·have a:xs.drop k=[]:=List.drop_eq_nil_of_le (by omega);rw[if_pos h1,a];cases e:ys.drop k with
  | nil=>have:=congrArg List.length e;simp at this;omega
  | cons=>rfl
 ·have a:xs.drop k=[]:=List.drop_eq_nil_of_le (by omega);have b:ys.drop k=[]:=List.drop_eq_nil_of_le (by omega);rw[if_neg (by omega),if_neg (by omega),a,b];rfl
 ·have b:ys.drop k=[]:=List.drop_eq_nil_of_le (by omega);rw[if_neg (by omega),if_pos h1,b];cases e:xs.drop k with
  | nil=>have:=congrArg List.length e;simp at this;omega
  | cons=>rfl
namespace Vc
theorem cmp(S:Nat)(hS:8*S+8≤LIM)(A:OA)(n c:Nat)(xs:List Rat)(H:Nat)(B:OA)(f c':Nat)(ys:List Rat)(H':Nat)(w:World)(p:VecS w H (A,n,c) xs)(r:VecS w H' (B,f,c') ys)(zx:∀q∈xs,mw q≤S)(zy:∀q∈ys,mw q≤S) :
  Calls Tryz.prog 51 #[(A,n,c),(B,f,c')] w fun e w'=>e=.returned (.int .i64 (zlz xs ys))∧Below w.heap.size w w':=by
 have V:=hid p.len;have X:=hid r.len;have HX:=hid p;have HY:=hid r;have ar:=hid hS;have ZX:=hid zx;have ZY:=hid zy;have aS:n≤9223372036854775807:=by have h1:=p.form.2.1;have Y:=p.form.2.2.1;unfold maxLen at Y;omega
 have aT:f≤9223372036854775807:=by have h1:=r.form.2.1;have Y:=r.form.2.2.1;unfold maxLen at Y;omega
 clear zx zy hS p r;obtain⟨N,hN⟩:∃N,N=min n f:=⟨_,rfl⟩
 have HN:=hid hN;have aM:N≤9223372036854775807:=by omega
 have aK:N≤n:=by omega
 have aL:N≤f:=by omega
 clear hN;go_enter Tryz.func51,Tryz.ntmps51;go_upto_region 1 with fail
 go_cut[11,12] (fun a b wr=>a=.int .i64 (N:Int)∧b=.int .i64 0∧wr=w)
 case first =>
  go_wp2
  all_goals
   go_meet
   case rel=>exact⟨by congr 1;have:=HN.out;omega,rfl,rfl⟩
 case rest =>
  obtain⟨rfl,rfl,rfl⟩:=hcut;rename World=>w
  go_wp2
  go_loopw [12] (fun i wr=>∃k:Nat,i=.int .i64 k∧k≤N∧zlz xs ys=zlz (xs.drop k) (ys.drop k)∧Below w.heap.size w wr)
   (fun i _=>N-(intOf i).toNat)
  case atStart=>exact⟨0,rfl,Nat.zero_le _,rfl,Below.refl _ _⟩
  case round =>
   obtain⟨k,rfl,hk,L,m⟩:=hrel;have Z:=hid L;by_cases aR:k<N
   ·obtain⟨l,rfl,_,_⟩:=HX.out.has (by omega);obtain⟨by_,rfl,_,_⟩:=HY.out.has (by omega);have M:=zaH (xs:=xs) (j:=k) (by rw[←V.out];omega);have O:=zaH (xs:=ys) (j:=k) (by rw[←X.out];omega);obtain⟨I,s,P,C,u,R,F,y0,y1,y2,ag⟩:=(HX.out.below m).at_ M;obtain⟨J,t,Q,D,v,T,G,z0,z1,z2,ah⟩:=(HY.out.below m).at_ O;have aa:=hid (zuu M O);have ao:=hid (show 4*(mw (el xs k)+mw (el ys k))+8≤LIM by have:=ar.out;have:=ZX.out _ (List.mem_of_getElem? M);have:=ZY.out _ (List.mem_of_getElem? O);omega)
    have ap:=hid (show RatS wr I (s,P,C) (u,R,F) (el xs k)from ag);have aq:=hid (show RatS wr J (t,Q,D) (v,T,G) (el ys k)from ah);have HW:=hid (show Bel w wr from Bel.mk m);have aE:wr.cell? ⟨l,k*3,none⟩=some (.bool I):=y0;have ay:=zaa aE;have aF:wr.cell? ⟨l,k*3+1,none⟩=some (s,P,C):=y1;have az:=zaa aF;have aG:wr.cell? ⟨l,k*3+2,none⟩=some (u,R,F):=y2;have aA:=zaa aG;have aH:wr.cell? ⟨by_,k*3,none⟩=some (.bool J):=z0;have aB:=zaa aH
    have aI:wr.cell? ⟨by_,k*3+1,none⟩=some (t,Q,D):=z1;have aC:=zaa aI;have aJ:wr.cell? ⟨by_,k*3+2,none⟩=some (v,T,G):=z2;have aD:=zaa aJ;have aN:(0:Int)≤(k:Int):=Int.natCast_nonneg _;have aO:(k:Int)<(N:Int):=by omega
    have aP:(k:Int)<(n:Int):=by omega
    have aQ:(k:Int)<(f:Int):=by omega
    clear m L M O y0 y1 y2 z0 z1 z2 ag ah;go_wp2_with fail
    refine zaS (S:=fun w'=>w'.cell? ⟨l,k*3,none⟩=some (.bool I)∧w'.cell? ⟨l,k*3+1,none⟩=some (s,P,C)∧w'.cell? ⟨l,k*3+2,none⟩=some (u,R,F)∧w'.cell? ⟨by_,k*3,none⟩=some (.bool J)∧w'.cell? ⟨by_,k*3+1,none⟩=some (t,Q,D)∧w'.cell? ⟨by_,k*3+2,none⟩=some (v,T,G)) [] (h:=fun hHeld=>?_);refine zaw [0,1,2,3,4,5,6,7] ?_;repeat refine tkL (hS:=hHeld) (h:=?_)
    refine zao ?_;refine zaB 8 (h:=fun K hK=>?_);go_simp
    (go_at_call 40;(with_reducible refine(Rt.cmpr I s P C u R F (el xs k) J t Q D v T G (el ys k) _ ap.out.drew aq.out.drew ao.out).mono ?_);rintro e v1 ⟨rfl,hb⟩;have am:=hid (HW.out.drew.below hb);have aV:=zab hb ay;have aW:=zab hb az;have aX:=zab hb aA;have aY:=zab hb aB;have aZ:=zab hb aC;have a0:=zab hb aD;clear hb)
    (try go_wp2_with fail)
    refine hK.out _ _ kp fun hHeld=>?_
    clear hK K;try simp only[Act.put,pu1,pu2,pu3,pu4,pu5,pu6]
    refine zaw [9] ?_;repeat refine tkL (hS:=hHeld) (h:=?_)
    refine zao ?_;refine zaM (h:=?_);by_cases o:zlX (el xs k) (el ys k)=0
    ·rw[o];have g:=hid (show zlz xs ys=zlz (xs.drop (k+1)) (ys.drop (k+1))by rw[Z.out,aa.out,if_pos o]);clear o;go_wp2;go_roundw
     case rel=>exact⟨k+1,by go_num,by omega,g.out,am.out.b⟩
     case measure=>simp[intOf];omega
    ·have g:=hid (show zlz xs ys=zlX (el xs k) (el ys k)by rw[Z.out,aa.out,if_neg o]);generalize zlX (el xs k) (el ys k)=z at o g;have aU:(z != 0)=true:=by simp[o]
     go_wp2;go_ret
     exact⟨by rw[g.out];rfl,am.out.b⟩
   ·obtain rfl:N=k:=by omega
    have g:=hid (show zlz xs ys=if n<f then -1 else if f<n then 1 else 0 by rw[L,zwD (by rw[←V.out,←X.out];exact HN.out),←V.out,←X.out]);have U:=hid m;clear L m;rcases Nat.lt_trichotomy n f with h1 | h1 | h1
    ·have e:zlz xs ys = -1:=(by rw[g.out,if_pos h1])
     have d1:(n:Int)<(f:Int):=(by omega)
     have E:=hid e;clear e;go_wp2;go_ret
     exact⟨by rw[E.out];rfl,U.out⟩
    ·have e:zlz xs ys=0:=(by rw[g.out,if_neg (by omega),if_neg (by omega)])
     have d1:¬(n:Int)<(f:Int):=(by omega)
     have d2:¬(f:Int)<(n:Int):=(by omega)
     have E:=hid e;clear e;go_wp2;go_ret
     exact⟨by rw[E.out];rfl,U.out⟩
    ·have e:zlz xs ys=1:=(by rw[g.out,if_neg (by omega),if_pos h1])
     have d1:¬(n:Int)<(f:Int):=(by omega)
     have d2:(f:Int)<(n:Int):=(by omega)
     have E:=hid e;clear e;go_wp2;go_ret
     exact⟨by rw[E.out];rfl,U.out⟩
theorem same(S:Nat)(hS:8*S+8≤LIM)(A:OA)(n c:Nat)(xs:List Rat)(H:Nat)(B:OA)(g c':Nat)(ys:List Rat)(i:Nat)(w:World)(k:VecS w H (A,n,c) xs)(l:VecS w i (B,g,c') ys)(zx:∀q∈xs,mw q≤S)(zy:∀q∈ys,mw q≤S) :
  Calls Tryz.prog 21 #[(A,n,c),(B,g,c')] w fun e w'=>e=.returned (.bool (decide (xs=ys)))∧Below w.heap.size w w':=by
 have m:=hid (cmp S hS A n c xs H B g c' ys i w k l zx zy);have a:=hid (show(zlz xs ys == 0)=decide (xs=ys)by rw[Bool.eq_iff_iff];simp[zot]);clear k l zx zy hS;go_enter Tryz.func21,Tryz.ntmps21;go_wp2_with fail
 refine m.out.mono ?_;rintro e w1 ⟨rfl,hb⟩;have j:=hid hb;clear hb;generalize zlz xs ys=z at a;by_cases f:z=0
 ·have b:(z == 0)=true:=by simp[f]
  have E:=hid (show decide (xs=ys)=true by rw[←a.out,b]);subst f;go_wp2;go_ret
  exact⟨by rw[E.out];rfl,j.out⟩
 ·have b:(z == 0)=false:=by simp[f]
  have E:=hid (show decide (xs=ys)=false by rw[←a.out,b]);go_wp2;go_ret
  exact⟨by rw[E.out];rfl,j.out⟩
end Vc
def yew (n:Nat) (cost:List Rat) (rows:List PRow) (ys:List Rat):Bool:=(zly cost ((-1:Int):Rat) (sv n ys rows)).any fun q=>decide (q<0)
def ydS (n:Nat) (cost:List Rat) (rows:List PRow) (ys:List Rat):Bool:=zId rows ys && !(yew n cost rows ys)
structure Good (nc nr:Nat) (cost:List Rat) (rows:List PRow):Prop where
  hc:nc≤24
  hr:nr≤4
  sc:Sm cost
  rw_:Rows nc rows
  kd:Kinds rows
theorem yee(h:Rows n rows):(sv n ys rows).length=n:=zPw h _ (Nat.le_refl _)
open Am
def tj (rows:List PRow) (ys:List Rat) (j n:Nat):Rat:=zai n fun k=>el ys k*el (rows.getD k default).coef j
theorem yek{n:Nat}{rows:List PRow}(ys:List Rat)(h:Rows n rows){j:Nat}(hj:j<n):∀k,k≤rows.length→el (zPA n ys rows k) j=tj rows ys j k
 | 0,_=>zrm n j
 | k+1,hk=>by
  have f:=yek ys h hj k (by omega);obtain⟨p,a⟩:∃p,rows[k]? = some p:=⟨rows[k]'(by omega),List.getElem?_eq_getElem _⟩
  have g:=(h p (List.mem_of_getElem? a)).1;have i:=zPw (ys:=ys) h k (by omega);have b:(zPA n ys rows k)[j]? = some (el (zPA n ys rows k) j):=by
   rw[List.getElem?_eq_getElem (by omega)];unfold el;rw[List.getD_eq_getElem?_getD,List.getElem?_eq_getElem (by omega)];rfl
  have c:p.coef[j]? = some (el p.coef j):=by
   rw[List.getElem?_eq_getElem (by omega)];unfold el;rw[List.getD_eq_getElem?_getD,List.getElem?_eq_getElem (by omega)];rfl
  have e:=znd (zmR (r:=el ys k) b c);show el (zly (zPA n ys rows k) (el ys k) (rows.getD k default).coef) j=tj rows ys j (k+1)
  rw[zfC a,e,f];unfold tj;rw[zai,zfC a]
theorem yej(ys:List Rat)(h:Rows n rows){j:Nat}(hj:j<n):el (sv n ys rows) j=tj rows ys j rows.length:=yek ys h hj _ (Nat.le_refl _)
def yd6 (cost:List Rat) (rows:List PRow) (ys:List Rat) (j:Nat):Bool:=(List.range j).all fun i=>decide (tj rows ys i rows.length≤el cost i)
theorem yeg(h:Rows n rows)(hc:cost.length=n):yd6 cost rows ys n = !(yew n cost rows ys):=by
 have g:=yee (ys:=ys) h;have f:(zly cost ((-1:Int):Rat) (sv n ys rows)).length=n:=by rw[zdt (by omega),hc]
 have hg:∀j,j<n→(zly cost ((-1:Int):Rat) (sv n ys rows))[j]? = some (el cost j+((-1:Int):Rat)*tj rows ys j rows.length):=by
  intro j hj;rw[zmR (zaH (by omega)) (zaH (by omega)),yej ys h hj]
 have a:((-1:Int):Rat) = -1:=by rfl
 rw[Bool.eq_iff_iff];unfold yd6 yew;simp only[List.all_eq_true,List.mem_range,decide_eq_true_eq,Bool.not_eq_true',List.any_eq_false];constructor
 ·intro h1 q e;obtain⟨j,hj⟩:=List.mem_iff_getElem?.1 e;have c:j<n:=by have:=(List.getElem?_eq_some_iff.1 hj).1;omega
  rw[hg j c]at hj;have b:=h1 j c;rw[←Option.some.inj hj,a];grind
 ·intro h1 j hj;have b:=h1 _ (List.mem_of_getElem? (hg j hj));rw[a]at b;grind
theorem yd8(h:Rows n rows)(hc:cost.length=n):ydS n cost rows ys=(yd6 cost rows ys n&&zxD rows ys rows.length):=by
 unfold ydS zId;rw[yeg h hc,Bool.and_comm]
theorem yed{q:Rat}(hk:1≤p.kind∧p.kind≤3)(c:zIc p q=true)(a:zdH p x=true):q*p.rhs≤q*dot p.coef x:=by
 have f:zdp p x=dot p.coef x-p.rhs:=rfl;rcases(by omega:p.kind=1∨p.kind=2∨p.kind=3)with e | e | e
 ·rw[yd3 e]at c;have g:¬0<q:=by simpa using c
  rw[←zxh e]at a;have b:=(zsp _).1 (of_decide_eq_true a);rw[f]at b;have h0:0 ≤ -q:=by grind
  have h1:=Rat.mul_le_mul_of_nonneg_left (show dot p.coef x≤p.rhs by grind) h0;grind
 ·rw[yd4 e]at c;have g:¬q<0:=by simpa using c
  rw[←zxg e]at a;have b:=of_decide_eq_true a;rw[f]at b;have h0:0≤q:=by grind
  exact Rat.mul_le_mul_of_nonneg_left (show p.rhs≤dot p.coef x by grind) h0
 ·rw[←zxf e]at a;have b:zdp p x=0:=of_decide_eq_true a;rw[f]at b;have:dot p.coef x=p.rhs:=by grind
  rw[this];exact Rat.le_refl
theorem weak{y:List Rat}(h:Rows n rows)(hk:Kinds rows)(hc:cost.length=n)(q:ydS n cost rows y=true)(b:znD cost rows x=true):sb y rows≤dot cost x:=by
 unfold znD at b;rw[Bool.and_eq_true,Bool.and_eq_true]at b;obtain⟨⟨u,g⟩,hr⟩:=b;have A:=of_decide_eq_true u;rw[Bool.not_eq_true',List.any_eq_false]at g;rw[List.all_eq_true]at hr;have e:=q;rw[yd8 h hc,Bool.and_eq_true]at e;obtain⟨a,c⟩:=e;have r:∀j,j<n→tj rows y j rows.length≤el cost j:=by
  intro j hj;unfold yd6 at a;rw[List.all_eq_true]at a;exact of_decide_eq_true (a j (List.mem_range.2 hj))
 have t:∀k,k<rows.length→zIc (rows.getD k default) (el y k)=true:=by
  intro k hk;unfold zxD at c;rw[List.all_eq_true]at c;exact c k (List.mem_range.2 hk)
 have s:∀k,k<rows.length→rows.getD k default∈rows:=by
  intro k hk;rw[zfC (List.getElem?_eq_getElem hk)];exact List.getElem_mem hk
 have l:zai rows.length (fun k=>el y k*zai n (fun j=>el (rows.getD k default).coef j*el x j))=zai n (fun j=>tj rows y j rows.length*el x j):=by
  have m:∀k,el y k*zai n (fun j=>el (rows.getD k default).coef j*el x j)=zai n (fun j=>el y k*el (rows.getD k default).coef j*el x j):=by
   intro k;rw[←za7];exact zaj fun j _=>by grind
  rw[zaj (fun k _=>m k),zbq];refine zaj fun j _=>?_
  unfold tj;rw[Rat.mul_comm,←za7];exact zaj fun k _=>by grind
 have h1:sb y rows≤zai rows.length (fun k=>el y k*zai n (fun j=>el (rows.getD k default).coef j*el x j)):=by
  refine zUD fun k f=>?_
  have hm:=s k f;have i:=yed (x:=x) (hk _ hm) (t k f) (hr _ hm);have o:dot (rows.getD k default).coef x=zai n (fun j=>el (rows.getD k default).coef j*el x j):=by
   unfold dot ziw;rw[(h _ hm).1]
  rw[o]at i;exact i
 have p:zai n (fun j=>tj rows y j rows.length*el x j)≤dot cost x:=by
  unfold dot ziw;rw[hc];refine zUD fun j hj=>?_
  have v:0≤el x j:=by
   have:=g _ (List.mem_of_getElem? (zaH (xs:=x) (j:=j) (by omega)));have z:¬el x j<0:=by simpa using this
   grind
  exact Rat.mul_le_mul_of_nonneg_right (r j hj) v
 rw[l]at h1;exact Rat.le_trans h1 p
theorem ydV{f:Nat→Rat}:∀ {n:Nat},(∀i,i<n→0≤f i)→0≤zai n f:=fun {n} h=>by
 have:=zUD (f:=fun _=>0) h;rw[zgd]at this;exact this
theorem yd0{f:Nat→Rat}:∀ {n:Nat},(∀i,i<n→0≤f i)→zai n f=0→∀i,i<n→f i=0
 | n+1,h,e,i,a=>by
  have h1:=ydV (n:=n) fun i a=>h i (by omega)
  have c:=h n (by omega);have b:zai n f+f n=0:=e;by_cases x:i=n
  ·subst x;grind
  ·exact yd0 (n:=n) (fun i a=>h i (by omega)) (by grind) i (by omega)
theorem yel(hk:1≤p.kind∧p.kind≤3):zdH p x=true↔(p.kind=1→zdp p x≤0)∧(p.kind=2→0≤zdp p x)∧(p.kind=3→zdp p x=0):=by
 unfold zdH;by_cases a:p.kind=1
 ·rw[if_pos a,decide_eq_true_iff];exact⟨fun h=>⟨fun _=>h,fun k=>by omega,fun k=>by omega⟩,fun h=>h.1 a⟩
 ·by_cases k2:p.kind=2
  ·rw[if_neg a,if_pos k2,decide_eq_true_iff];exact⟨fun h=>⟨fun k=>by omega,fun _=>h,fun k=>by omega⟩,fun h=>h.2.1 k2⟩
  ·have k3:p.kind=3:=by omega
   rw[if_neg a,if_neg k2,decide_eq_true k3,Bool.true_and,decide_eq_true_iff];exact⟨fun h=>⟨fun k=>by omega,fun k=>by omega,fun _=>h⟩,fun h=>h.2.2 k3⟩
theorem ydW(t:Rat)(y:List Rat)(k:Nat):el (scale t y) k=t*el y k:=by
 by_cases hk:k<y.length
 ·exact znd (zvn (zaH hk))
 ·rw[zDb (by rw[zfH];omega),zDb (by omega),Rat.mul_zero]
theorem yd5(a:0<t)(p:PRow)(q:Rat):zIc p (t*q)=zIc p q:=by
 have c:(0<t*q)↔0<q:=⟨fun h=>Rat.not_le.1 fun b=>by have:=Rat.mul_nonneg (Rat.le_of_lt a) (show 0 ≤ -q by grind);grind,fun h=>Rat.mul_pos a h⟩
 have e:(t*q<0)↔q<0:=⟨fun h=>Rat.not_le.1 fun b=>by have:=Rat.mul_nonneg (Rat.le_of_lt a) b;grind,fun h=>by have:=Rat.mul_pos a (show 0 < -q by grind);grind⟩
 unfold zIc;rw[decide_eq_decide.2 c,decide_eq_decide.2 e]
theorem yef(t:Rat)(rows:List PRow)(y:List Rat)(j m:Nat):tj rows (scale t y) j m=t*tj rows y j m:=by
 unfold tj;rw[←za7];exact zaj fun k _=>by rw[ydW];grind
theorem yer(t:Rat)(rows:List PRow)(y:List Rat):sb (scale t y) rows=t*sb y rows:=by
 unfold sb zPV;rw[←za7];exact zaj fun k _=>by rw[ydW];grind
section
variable {n:Nat} {cost x y d:List Rat} {rows:List PRow} (h:Rows n rows) (hc:cost.length=n)
include h hc in
theorem ydU:ydS n cost rows y=true↔(∀j,j<n→tj rows y j rows.length≤el cost j)∧∀k,k<rows.length→zIc (rows.getD k default) (el y k)=true:=by
 rw[yd8 h hc,Bool.and_eq_true];unfold yd6 zxD;rw[List.all_eq_true,List.all_eq_true];exact⟨fun⟨a,b⟩=>⟨fun j hj=>of_decide_eq_true (a j (List.mem_range.2 hj)),fun k hk=>b k (List.mem_range.2 hk)⟩,fun⟨a,b⟩=>⟨fun j hj=>decide_eq_true (a j (List.mem_range.1 hj)),fun k hk=>b k (List.mem_range.1 hk)⟩⟩
theorem ydT:znD cost rows x=true↔x.length=cost.length∧(∀j,0≤el x j)∧∀p∈rows,zdH p x=true:=by
 unfold znD;rw[Bool.and_eq_true,Bool.and_eq_true,decide_eq_true_iff,Bool.not_eq_true',List.any_eq_false,List.all_eq_true];refine⟨fun⟨⟨a,b⟩,c⟩=>⟨a,fun j=>?_,c⟩,fun⟨a,b,c⟩=>⟨⟨a,fun q e=>?_⟩,c⟩⟩
 ·by_cases hj:j<x.length
  ·have:=b _ (List.mem_of_getElem? (zaH hj));have f:¬el x j<0:=by simpa using this
   grind
  ·rw[zDb (by omega)];exact Rat.le_refl
 ·obtain⟨j,hj⟩:=List.mem_iff_getElem?.1 e;have:=b j;rw[znd hj]at this;simpa using Rat.not_lt.2 this
theorem yd2(hk:k<rows.length):rows.getD k default∈rows:=by
 rw[zfC (List.getElem?_eq_getElem hk)];exact List.getElem_mem hk
include h in
theorem yex(hk:k<rows.length):dot (rows.getD k default).coef x=zai n fun j=>el (rows.getD k default).coef j*el x j:=by
 unfold dot ziw;rw[(h _ (yd2 hk)).1]
include h in
theorem yd7:zai rows.length (fun k=>el y k*dot (rows.getD k default).coef x)=zai n fun j=>tj rows y j rows.length*el x j:=by
 rw[zaj fun k hk=>by rw[yex h hk]];have a:∀k,el y k*zai n (fun j=>el (rows.getD k default).coef j*el x j)=zai n (fun j=>el y k*el (rows.getD k default).coef j*el x j):=by
  intro k;rw[←za7];exact zaj fun j _=>by grind
 rw[zaj (fun k _=>a k),zbq];refine zaj fun j _=>?_
 unfold tj;rw[Rat.mul_comm,←za7];exact zaj fun k _=>by grind
include hc in
theorem ydY:dot cost x=zai n fun j=>el cost j*el x j:=by unfold dot ziw;rw[hc]
def ydZ (n:Nat) (cost:List Rat) (rows:List PRow) (x y:List Rat):Bool:=((List.range n).all fun j=>decide (el x j=0)||decide (el (sv n y rows) j=el cost j))&&(List.range rows.length).all fun k=>decide (zdp (rows.getD k default) x=0)||decide (el y k=0)
theorem yd1{b:Rat}(h:a*b=0):a=0∨b=0:=by
 by_cases c:a=0
 ·exact .inl c
 ·right;have:a⁻¹*(a*b)=0:=by rw[h,Rat.mul_zero]
  rwa [←Rat.mul_assoc,Rat.inv_mul_cancel a c,Rat.one_mul]at this
include h hc in
theorem yeo(hk:Kinds rows)(t:ydS n cost rows y=true)(u:znD cost rows x=true):ydZ n cost rows x y=decide (sb y rows=dot cost x):=by
 obtain⟨o,p⟩:=(ydU h hc).1 t;obtain⟨A,r,s⟩:=ydT.1 u;have i:∀j,j<n→0≤(el cost j-tj rows y j rows.length)*el x j:=fun j hj=>Rat.mul_nonneg (by have:=o j hj;grind) (r j)
 have gk:∀k,k<rows.length→0≤el y k*zdp (rows.getD k default) x:=fun k c=>by
  have:=yed (hk _ (yd2 c)) (p k c) (s _ (yd2 c));have e:zdp (rows.getD k default) x=dot (rows.getD k default).coef x-(rows.getD k default).rhs:=rfl;rw[e];grind
 have v:zai n (fun j=>(el cost j-tj rows y j rows.length)*el x j)=dot cost x-zai n (fun j=>tj rows y j rows.length*el x j):=by
  rw[ydY hc,zaj (g:=fun j=>el cost j*el x j+(-1)*(tj rows y j rows.length*el x j)) fun j _=>by grind,zcm,za7];grind
 have z:zai rows.length (fun k=>el y k*zdp (rows.getD k default) x)=zai n (fun j=>tj rows y j rows.length*el x j)-sb y rows:=by
  rw[←yd7 h,zaj (g:=fun k=>el y k*dot (rows.getD k default).coef x+(-1)*(el y k*(rows.getD k default).rhs)) fun k _=>by unfold zdp;grind,zcm,za7];unfold sb zPV;grind
 have s1:=ydV i;have s2:=ydV gk;rw[Bool.eq_iff_iff,decide_eq_true_iff];unfold ydZ;rw[Bool.and_eq_true,List.all_eq_true,List.all_eq_true];constructor
 ·intro⟨a,b⟩;have l:=zcn (f:=fun j=>(el cost j-tj rows y j rows.length)*el x j) (n:=n) fun j hj=>by
   have:=a j (List.mem_range.2 hj);rw[Bool.or_eq_true,decide_eq_true_iff,decide_eq_true_iff,yej y h hj]at this;rcases this with e | e
   ·rw[e,Rat.mul_zero]
   ·rw[e];grind
  have m:=zcn (f:=fun k=>el y k*zdp (rows.getD k default) x) (n:=rows.length) fun k c=>by
   have:=b k (List.mem_range.2 c);rw[Bool.or_eq_true,decide_eq_true_iff,decide_eq_true_iff]at this;rcases this with e | e
   ·rw[e,Rat.mul_zero]
   ·rw[e,Rat.zero_mul]
  grind
 ·intro e;have l:=yd0 i (by grind);have m:=yd0 gk (by grind);refine⟨fun j hj=>?_,fun k c=>?_⟩
  ·have hj:=List.mem_range.1 hj;rw[Bool.or_eq_true,decide_eq_true_iff,decide_eq_true_iff,yej y h hj];rcases yd1 (l j hj)with q | q
   ·right;grind
   ·exact .inl q
  ·have c:=List.mem_range.1 c;rw[Bool.or_eq_true,decide_eq_true_iff,decide_eq_true_iff];rcases yd1 (m k c)with q | q
   ·exact .inr q
   ·exact .inl q
def yeu (n:Nat) (rows:List PRow) (y:List Rat):Bool:=zId rows y && !((scale ((-1:Int):Rat) (sv n y rows)).any fun q=>decide (q<0))&&decide (0<sb y rows)
include h in
theorem yea(f:yeu n rows y=true):(∀j,j<n→tj rows y j rows.length≤0)∧(∀k,k<rows.length→zIc (rows.getD k default) (el y k)=true)∧0<sb y rows:=by
 unfold yeu zId zxD at f;rw[Bool.and_eq_true,Bool.and_eq_true,decide_eq_true_iff,Bool.not_eq_true',List.any_eq_false,List.all_eq_true]at f;obtain⟨⟨a,b⟩,c⟩:=f;refine⟨fun j hj=>?_,fun k hk=>a k (List.mem_range.2 hk),c⟩;have l:=yee (ys:=y) h;have:=b _ (List.mem_of_getElem? (zvn (r:=((-1:Int):Rat)) (zaH (xs:=sv n y rows) (j:=j) (by omega))));have g:¬((-1:Int):Rat)*el (sv n y rows) j<0:=fun i=>this (decide_eq_true i)
 rw[yej y h hj]at g;have e:((-1:Int):Rat) = -1:=rfl;rw[e]at g;grind
include h in
theorem yeq(hk:Kinds rows)(hc:cost.length=n)(o:yeu n rows y=true):znD cost rows x=false:=by
 obtain⟨a,b,c⟩:=yea h o;rw[Bool.eq_false_iff];intro m;obtain⟨p,g,i⟩:=ydT.1 m;have h1:sb y rows≤zai rows.length (fun k=>el y k*dot (rows.getD k default).coef x):=zUD fun k e=>yed (hk _ (yd2 e)) (b k e) (i _ (yd2 e))
 rw[yd7 h]at h1;have l:=ydV (f:=fun j=>(-1)*(tj rows y j rows.length*el x j)) (n:=n) fun j hj=>by
  have:=Rat.mul_nonneg (show 0 ≤ -tj rows y j rows.length by have:=a j hj;grind) (g j);grind
 rw[za7]at l;grind
def yey (cost:List Rat) (rows:List PRow) (x d:List Rat):Bool:=znD cost rows x&&decide (d.length=x.length) && !(d.any fun q=>decide (q<0))&&(rows.all fun p=>zdH ⟨p.coef,p.kind,0⟩ d)&&decide (dot cost d<0)
theorem yec:yey cost rows x d=true↔znD cost rows x=true∧znD cost (rows.map fun p=>⟨p.coef,p.kind,0⟩) d=true∧dot cost d<0:=by
 unfold yey;rw[Bool.and_eq_true,Bool.and_eq_true,Bool.and_eq_true,Bool.and_eq_true,decide_eq_true_iff,decide_eq_true_iff];unfold znD;rw[Bool.and_eq_true,Bool.and_eq_true,Bool.and_eq_true,Bool.and_eq_true,decide_eq_true_iff,decide_eq_true_iff,List.all_map];constructor
 ·intro⟨⟨⟨⟨⟨⟨a,b⟩,c⟩,e⟩,f⟩,g⟩,i⟩;exact⟨⟨⟨a,b⟩,c⟩,⟨⟨by omega,f⟩,g⟩,i⟩
 ·intro⟨⟨⟨a,b⟩,c⟩,⟨⟨e,f⟩,g⟩,i⟩;exact⟨⟨⟨⟨⟨⟨a,b⟩,c⟩,by omega⟩,f⟩,g⟩,i⟩
include h hc in
theorem yes(hk:Kinds rows)(o:yey cost rows x d=true):ydS n cost rows y=false:=by
 rw[Bool.eq_false_iff];intro m;obtain⟨b,c⟩:=(ydU h hc).1 m;obtain⟨_,u2,s⟩:=yec.1 o;obtain⟨r,e,i⟩:=ydT.1 u2;have h1:0≤zai rows.length (fun k=>el y k*dot (rows.getD k default).coef d):=ydV fun k a=>by
  have:=yed (p:=⟨(rows.getD k default).coef,(rows.getD k default).kind,0⟩) (x:=d) (q:=el y k) (hk (rows.getD k default) (yd2 a)) (c k a) (i _ (List.mem_map.2 ⟨_,yd2 a,rfl⟩));rw[Rat.mul_zero]at this;exact this
 rw[yd7 h]at h1;have l:=zUD (f:=fun j=>tj rows y j rows.length*el d j) (g:=fun j=>el cost j*el d j) (n:=n) fun j hj=>Rat.mul_le_mul_of_nonneg_right (b j hj) (e j)
 rw[←ydY hc]at l;grind
include h hc in
theorem yeU(hk:Kinds rows)(B:yey cost rows x d=true)(f:0<t):znD cost rows (zly x t d)=true∧dot cost (zly x t d)<dot cost x:=by
 obtain⟨u1,u2,G⟩:=yec.1 B;obtain⟨I,C,D⟩:=ydT.1 u1;obtain⟨E,z,A⟩:=ydT.1 u2;have F:(zly x t d).length=x.length:=zdt (by omega);have i:∀j,j<n→el (zly x t d) j=el x j+t*el d j:=fun j hj=>zuD t (by omega) (by omega)
 have g:∀c:List Rat,c.length=n→dot c (zly x t d)=dot c x+t*dot c d:=fun c lc=>by
  rw[ydY (x:=zly x t d) lc,ydY (x:=x) lc,ydY (x:=d) lc,←za7,←zcm];exact zaj fun j hj=>by rw[i j hj];grind
 constructor
 ·refine ydT.2 ⟨by omega,fun j=>?_,fun p e=>?_⟩
  ·by_cases hj:j<n
   ·rw[i j hj];have:=Rat.mul_nonneg (Rat.le_of_lt f) (z j);have:=C j;grind
   ·rw[zDb (by omega)];exact Rat.le_refl
  ·have a:=D p e;have b:=A _ (List.mem_map.2 ⟨p,e,rfl⟩);have v:zdp p (zly x t d)=zdp p x+t*zdp ⟨p.coef,p.kind,0⟩ d:=by
    unfold zdp;rw[g _ (h p e).1];grind
   have l:=hk p e;rw[yel l]at a ⊢;rw[yel (p:=⟨p.coef,p.kind,0⟩) l]at b;obtain⟨m,o,q⟩:=a;obtain⟨r,s,u⟩:=b;rw[v];refine⟨fun k=>?_,fun k=>?_,fun k=>?_⟩
   ·have:=Rat.mul_nonneg (Rat.le_of_lt f) (show 0 ≤ -zdp ⟨p.coef,p.kind,0⟩ d by have:=r k;grind);have:=m k;grind
   ·have:=Rat.mul_nonneg (Rat.le_of_lt f) (s k);have:=o k;grind
   ·rw[q k,u k];grind
 ·rw[g cost hc];have:=Rat.mul_pos f (show 0 < -dot cost d by grind);grind
include h hc in
theorem yd9(a:0<t):ydS n (scale t cost) rows (scale t y)=ydS n cost rows y:=by
 rw[Bool.eq_iff_iff,ydU h hc,ydU h (by rw[zfH];exact hc)];have e:∀j,(tj rows (scale t y) j rows.length≤el (scale t cost) j)↔tj rows y j rows.length≤el cost j:=fun j=>by
  rw[yef,ydW];exact⟨fun h=>Rat.not_lt.1 fun c=>by have:=Rat.mul_pos a (show 0<tj rows y j rows.length-el cost j by grind);grind,fun h=>Rat.mul_le_mul_of_nonneg_left h (Rat.le_of_lt a)⟩
 have b:∀k,zIc (rows.getD k default) (el (scale t y) k)=zIc (rows.getD k default) (el y k):=fun k=>by rw[ydW,yd5 a]
 simp only[e,b]
include h in
theorem yem:yeu n rows y=true↔(∀j,j<n→tj rows y j rows.length≤0)∧(∀k,k<rows.length→zIc (rows.getD k default) (el y k)=true)∧0<sb y rows:=by
 refine⟨yea h,fun⟨a,b,c⟩=>?_⟩;unfold yeu zId zxD;rw[Bool.and_eq_true,Bool.and_eq_true,decide_eq_true_iff,Bool.not_eq_true',List.any_eq_false,List.all_eq_true];refine⟨⟨fun k hk=>b k (List.mem_range.1 hk),fun q l=>?_⟩,c⟩;obtain⟨j,hj⟩:=List.mem_iff_getElem?.1 l;have f:=(List.getElem?_eq_some_iff.1 hj).1;rw[zfH,yee h]at f;have e:=znd hj;rw[ydW,yej y h f]at e;have:=a j f;have g:((-1:Int):Rat) = -1:=rfl;rw[g]at e;intro i;have:=of_decide_eq_true i;grind
include h in
theorem yen(a:0<t):yeu n rows (scale t y)=yeu n rows y:=by
 rw[Bool.eq_iff_iff,yem h,yem h];have e:∀j,(tj rows (scale t y) j rows.length≤0)↔tj rows y j rows.length≤0:=fun j=>by
  rw[yef];exact⟨fun h=>Rat.not_lt.1 fun b=>by have:=Rat.mul_pos a b;grind,fun h=>by have:=Rat.mul_nonneg (Rat.le_of_lt a) (show 0 ≤ -tj rows y j rows.length by grind);grind⟩
 have c:∀k,zIc (rows.getD k default) (el (scale t y) k)=zIc (rows.getD k default) (el y k):=fun k=>by rw[ydW,yd5 a]
 have f:(0<sb (scale t y) rows)↔0<sb y rows:=by
  rw[yer];exact⟨fun h=>Rat.not_le.1 fun b=>by have:=Rat.mul_nonneg (Rat.le_of_lt a) (show 0 ≤ -sb y rows by grind);grind,fun h=>Rat.mul_pos a h⟩
 simp only[e,c,f]
end
def yep (n:Nat) (cost:List Rat) (rows:List PRow) (y:List Rat):Bool:=decide (y.length=rows.length)&&ydS n cost rows y
def yeG (n:Nat) (cost:List Rat) (rows:List PRow) (x y:List Rat):Bool:=yep n cost rows y&&(znD cost rows x&&decide (sb y rows=dot cost x))
def yeD (n:Nat) (rows:List PRow) (y:List Rat):Bool:=decide (y.length=rows.length)&&yeu n rows y
def yev (n:Nat) (cost:List Rat) (rows:List PRow) (x y:List Rat):Bool:=decide (y.length=rows.length)&&(decide (x.length=cost.length)&&ydZ n cost rows x y)
