/- Contracts and lemmas: Open Ng Bnd Dual Cs20 Cert2 Is08 Lit. Conditions: as each says. -/
import Derived.Test.YtbdhheepakmgkaaGreatRows
import Derived.ProofKit
import Derived.OpenShut
import Derived.JoinedCond
import Derived.Deep.Slices
import Derived.Deep.Grids
import Derived.Test.YtbdhheepakmgkaaGreatDuBZc
set_option linter.all false
set_option maxHeartbeats 4000000
set_option maxRecDepth 100000
namespace Go.Proofs.YtbdhheepakmgkaaGreat
open Go.ChangeShapes Go.WideShapes Go.ChangeAt Go.RowKit Go.Deep
theorem own:ownKnob Tryz.prog.godebug=none:=by kernel_rfl
theorem zqj:laidOutB Tryz.prog=true:=by kernel_rfl
theorem zkC:Tryz.prog.cellsOf 67=2:=by kernel_rfl
theorem zKC:Tryz.prog.cellsOf 109=4:=by kernel_rfl
theorem zwz:Tryz.prog.cellsOf 3=1:=by kernel_rfl
theorem zLd:Tryz.prog.cellsOf 58=1:=by kernel_rfl
theorem zKr:Tryz.prog.cellsOf 22=1:=by kernel_rfl
theorem zK3:Tryz.prog.cellsOf 23=1:=by kernel_rfl
theorem zLt:Tryz.prog.cellsOf 25=2:=by kernel_rfl
theorem zmS(b o k:Nat):(⟨b,o,none⟩:Addr).add k=⟨b,o+k,none⟩:=by unfold Addr.add;split<;>simp_all
theorem zuZ{α:Type}{Q:Nat→α→Prop}:∀n:Nat,(∀i,i<n→∃x,Q i x)→∃l:List α,l.length=n∧∀i x,l[i]? = some x→Q i x
 | 0,_=>⟨[],rfl,fun i x h=>by simp at h⟩
 | n+1,h=>by
  obtain⟨l,b,c⟩:=zuZ n (fun i f=>h i (by omega));obtain⟨x,e⟩:=h n (by omega);refine⟨l++[x],by simp[b],fun i y a=>?_⟩;rcases Nat.lt_trichotomy i l.length with h1 | h1 | h1
  ·rw[List.getElem?_append_left h1]at a;exact c i y a
  ·subst h1;rw[List.getElem?_append_right (Nat.le_refl _)]at a;simp at a;subst a;rw[b];exact e
  ·rw[List.getElem?_eq_none (by simp;omega)]at a;cases a
theorem zDM{H:Type}(d:DataW H):1≤Rows.uptoBulk d:=by
 cases d with
 | lit l=>cases l<;>simp[Rows.uptoBulk]
 | nil=>simp[Rows.uptoBulk]
 | ptr d=>simp[Rows.uptoBulk]
 | slice elems spare=>simp[Rows.uptoBulk]
 | agg parts=>simp[Rows.uptoBulk]
 | iface t d=>simp[Rows.uptoBulk]
 | map entries=>simp[Rows.uptoBulk]
 | held h=>simp[Rows.uptoBulk]
theorem zKR{H:Type}{d:DataW H}{l:List (DataW H)}(h:d∈l):Rows.uptoBulk d≤Rows.uptoBulkAll l:=by
 induction l with
 | nil=>cases h
 | cons x r ih =>
  simp only[Rows.uptoBulkAll];cases List.mem_cons.1 h with
  | inl e=>subst e;omega
  | inr e=>have:=ih e;omega
theorem zoK{H:Type}(l:List (DataW H)):l.length≤Rows.uptoBulkAll l:=by
 induction l with
 | nil=>simp[Rows.uptoBulkAll]
 | cons x r ih=>have:=zDM x;simp only[Rows.uptoBulkAll,List.length_cons];omega
theorem i64_of{x:Int}(h:(Lit.int .i64 x).wf=true):I64 x:=by
 simp[Lit.wf,IntKind.min,IntKind.max,IntKind.signed,IntKind.bits]at h;exact⟨h.1,h.2⟩
section
variable {H:Type} {enc:TypeId × Value→H} {W:World} {base:Nat} {sp:Nat→Bool} {held:Bool}
theorem zAH{fuel:Nat}{cs:List Value}{x:DataW H × List MemPlace}(h:DataW.trod enc Tryz.prog W base sp held fuel 67 cs=some x):∃a b:Int,cs=[.int .i64 a,.int .i64 b]∧I64 a∧I64 b:=by
 obtain⟨ys,j,_,_,i,k,hg⟩:=DataW.trod_struct Tryz.underlying67 h;rw[zkC]at i
 match cs,i with
 | [c0,c1],_ =>
  have c:DataW.trod enc Tryz.prog W base sp held j 3 ([c0,c1].take (Tryz.prog.cellsOf 3))=ys[0]?:=hg 0 _ rfl;have e:DataW.trod enc Tryz.prog W base sp held j 3 ([c1].take (Tryz.prog.cellsOf 3))=ys[1]?:=hg 1 _ rfl;rw[zwz]at c e;have o:ys.length=2:=k;rw[List.getElem?_eq_getElem (show 0<ys.length by omega)]at c;rw[List.getElem?_eq_getElem (show 1<ys.length by omega)]at e;obtain⟨a,f,_,l⟩:=DataW.trod_int Tryz.underlying3 c;obtain⟨b,g,_,m⟩:=DataW.trod_int Tryz.underlying3 e;simp at f g;subst f g
  exact⟨a,b,rfl,i64_of l,i64_of m⟩
theorem zrv{fuel:Nat}{cs:List Value}{x:DataW H × List MemPlace}(h:DataW.trod enc Tryz.prog W base sp held fuel 22 cs=some x) :
  ∃(A:OA) (n cp:Nat) (ps:List (Int × Int)),cs=[.slice A n cp]∧n=ps.length∧zcs W A ps∧n≤cp∧cp≤9223372036854775807∧n≤Rows.uptoBulk x.1:=by
 rcases open_slice Tryz.underlying22 h with ⟨f,t⟩ | ⟨a,len,z,m,q,D,P,f,_,F,hm,r,t,p⟩
 ·exact⟨none,0,0,[],f,rfl,fun k y L=>by simp at L,Nat.le_refl _,by decide,Nat.zero_le _⟩
 ·have N:0<len→a.spot=none:=by
   intro h0;obtain⟨B,l,_⟩:=p 0 (by rw[r];split<;>omega);rw[zkC]at l;obtain⟨_,S,C⟩:=World.cells?_some l;have g:=C 0 (by omega);rw[List.getElem?_eq_getElem (show 0<B.length by omega)]at g;have:=World.cell?_spot g;simpa[Addr.add]using this
  have M:∀i,i<len→∃y:Int × Int,I64 y.1∧I64 y.2∧∃b o,some a=some ⟨b,o,none⟩∧W.cell? ⟨b,o+i*2,none⟩=some (.int .i64 y.1)∧W.cell? ⟨b,o+i*2+1,none⟩=some (.int .i64 y.2):=by
   intro i T;have E:i<m:=by rw[r];split<;>omega
   obtain⟨Q,hc,K⟩:=p i E;rw[zkC]at hc;obtain⟨_,R,j⟩:=World.cells?_some hc;obtain⟨u,v,rfl,wu,O⟩:=zAH K;have c:=j 0 (by omega);have e:=j 1 (by omega);simp only[List.getElem?_cons_zero,List.getElem?_cons_succ]at c e;have J:=N (by omega);obtain⟨b,o,s⟩:=a;obtain rfl:s=none:=J;rw[zmS,zmS]at c e;exact⟨(u,v),wu,O,b,o,rfl,c,e⟩
  obtain⟨ps,G,I⟩:=zuZ len M;refine⟨some a,len,z,ps,f,G.symm,I,F,by unfold maxLen at hm;omega,?_⟩;have h1:=zoK ((List.range len).map D);rw[List.length_map,List.length_range]at h1;rw[t];simp only[Rows.uptoBulk];omega
theorem zLz{fuel:Nat}{cs:List Value}{x:DataW H × List MemPlace}(h:DataW.trod enc Tryz.prog W base sp held fuel 23 cs=some x)(hb:Rows.uptoBulk x.1≤1048576) :
  ∃(A:OA) (n cp:Nat) (e:List LineV),cs=[.slice A n cp]∧n=e.length∧zex W A e∧n≤cp∧cp≤9223372036854775807:=by
 rcases open_slice Tryz.underlying23 h with ⟨B,L⟩ | ⟨a,len,O,m,q,D,Pl,B,_,Y,hm,K,L,J⟩
 ·exact⟨none,0,0,[],B,rfl,fun k y M=>by simp at M,Nat.le_refl _,by decide⟩
 ·have ah:0<len→a.spot=none:=by
   intro h0;obtain⟨Q,I,_⟩:=J 0 (by rw[K];split<;>omega);rw[zKC]at I;obtain⟨_,ao,S⟩:=World.cells?_some I;have F:=S 0 (by omega);rw[List.getElem?_eq_getElem (show 0<Q.length by omega)]at F;have:=World.cell?_spot F;simpa[Addr.add]using this
  have ag:∀i,i<len→∃y:LineV,y.coef.length≤1048576∧I64 y.rhs.1∧I64 y.rhs.2∧∃b o C cc,some a=some ⟨b,o,none⟩∧zcs W C y.coef ∧
    W.cell? ⟨b,o+i*4,none⟩=some (.slice C y.coef.length cc)∧W.cell? ⟨b,o+i*4+1,none⟩=some (.int .i64 y.kind)∧W.cell? ⟨b,o+i*4+2,none⟩=some (.int .i64 y.rhs.1)∧W.cell? ⟨b,o+i*4+3,none⟩=some (.int .i64 y.rhs.2):=by
   intro i V;have X:i<m:=by rw[K];split<;>omega
   obtain⟨P,hc,ht⟩:=J i X;rw[zKC]at hc;obtain⟨_,T,c⟩:=World.cells?_some hc;obtain⟨ys,E,_,ae,_,af,hg⟩:=DataW.trod_struct Tryz.underlying109 ht
   match P,T with
   | [c0,c1,c2,c3],_ =>
    have r:DataW.trod enc Tryz.prog W base sp held E 22 ([c0,c1,c2,c3].take (Tryz.prog.cellsOf 22))=ys[0]?:=hg 0 _ rfl;have t:DataW.trod enc Tryz.prog W base sp held E 58 ([c1,c2,c3].take (Tryz.prog.cellsOf 58))=ys[1]?:=hg 1 _ rfl;have z:DataW.trod enc Tryz.prog W base sp held E 67 ([c2,c3].take (Tryz.prog.cellsOf 67))=ys[2]?:=hg 2 _ rfl;rw[zKr]at r;rw[zLd]at t;rw[zkC]at z;have M:ys.length=3:=af;rw[List.getElem?_eq_getElem (show 0<ys.length by omega)]at r
    rw[List.getElem?_eq_getElem (show 1<ys.length by omega)]at t;rw[List.getElem?_eq_getElem (show 2<ys.length by omega)]at z;obtain⟨C,nC,N,ps,h0,hn,U,_,_,an⟩:=zrv r;obtain⟨kd,h1,_,_⟩:=DataW.trod_int Tryz.underlying58 t;obtain⟨u,v,G,wu,wv⟩:=zAH z;simp at h0 h1 G;obtain⟨rfl,rfl⟩:=G;subst h0 h1;have R:D i=.agg (ys.map (·.1)):=(Prod.mk.inj ae).1;have b1:Rows.uptoBulk (D i)≤Rows.uptoBulk x.1:=by
     have:=zKR (d:=D i) (l:=(List.range len).map D) (List.mem_map.2 ⟨i,List.mem_range.2 V,rfl⟩);rw[L];simp only[Rows.uptoBulk];omega
    have b2:Rows.uptoBulk ys[0].1≤Rows.uptoBulk (D i):=by
     have:=zKR (d:=ys[0].1) (l:=ys.map (·.1)) (List.mem_map.2 ⟨ys[0],List.getElem_mem _,rfl⟩);rw[R];simp only[Rows.uptoBulk];omega
    have f:=c 0 (by omega);have g:=c 1 (by omega);have j:=c 2 (by omega);have p:=c 3 (by omega);simp only[List.getElem?_cons_zero,List.getElem?_cons_succ]at f g j p;have ac:=ah (by omega);obtain⟨b,o,s⟩:=a;obtain rfl:s=none:=ac;rw[zmS,zmS]at f g j p;subst hn;exact⟨⟨ps,kd,(u,v)⟩,by show ps.length≤1048576;omega,wu,wv,b,o,C,N,rfl,U,f,g,j,p⟩
  obtain⟨e,Z,hq⟩:=zuZ len ag;exact⟨some a,len,O,e,B,Z.symm,hq,Y,by unfold maxLen at hm;omega⟩
end
end Go.Proofs.YtbdhheepakmgkaaGreat
namespace Go.Proofs.YtbdhheepakmgkaaGreat
open Go.RowKit Am
open Lib (hid)
theorem zNy{xs:List Rat}(h:∀k,k<xs.length→0≤el xs k):(xs.any fun q=>decide (q<0))=false:=by
 rw[List.any_eq_false];intro q a;obtain⟨k,hk⟩:=List.mem_iff_getElem?.1 a;have:=h k (List.getElem?_eq_some_iff.1 hk).1;rw[znd hk]at this;rw[decide_eq_false (Rat.not_lt.2 this)];decide
theorem zLu{m N S:Nat}{A:List (List Rat)}{cols:List Nat}(a:Basis m N A cols)(zA:∀r∈A,∀q∈r,mw q≤S):zhg mw m S (bc A cols):=fun j hj i b=>by
 rw[ztZ (by rw[a.len];exact hj) (by rw[a.rect.len];exact b)];have e:=zaO (L:=A) (i:=i) (d:=[]) (by rw[a.rect.len];exact b);have hm:=List.mem_of_getElem? e;exact zA _ hm _ (List.mem_of_getElem? (zaH (by rw[a.rect.row i b];exact a.lt j hj)))
def yew (n:Nat) (cost:List Rat) (rows:List PRow) (ys:List Rat):Bool:=(zly cost ((-1:Int):Rat) (sv n ys rows)).any fun q=>decide (q<0)
def ydS (n:Nat) (cost:List Rat) (rows:List PRow) (ys:List Rat):Bool:=zId rows ys && !(yew n cost rows ys)
structure Good (nc nr:Nat) (cost:List Rat) (rows:List PRow):Prop where
  hc:nc≤24
  hr:nr≤4
  sc:Sm cost
  rw_:Rows nc rows
  kd:Kinds rows
theorem yee{n:Nat}{ys:List Rat}{rows:List PRow}(h:Rows n rows):(sv n ys rows).length=n:=zPw h _ (Nat.le_refl _)
theorem yeT{n:Nat}{ys:List Rat}{rows:List PRow}(h:Rows n rows)(zy:Sm ys)(hr:rows.length≤4):∀q∈sv n ys rows,mw q≤100000000:=fun q a=>Nat.le_trans (zPD h zy _ (Nat.le_refl _) q a) (by omega)
theorem yeX{n:Nat}{ys:List Rat}{rows:List PRow}(h:Rows n rows)(zy:Sm ys)(hr:rows.length≤4):mw (sb ys rows)≤100000000:=Nat.le_trans (zQY h zy rows.length) (by omega)
end Go.Proofs.YtbdhheepakmgkaaGreat
namespace Go.Proofs.YtbdhheepakmgkaaGreat
open Am
def tj (rows:List PRow) (ys:List Rat) (j n:Nat):Rat:=zai n fun k=>el ys k*el (rows.getD k default).coef j
theorem yek{n:Nat}{rows:List PRow}(ys:List Rat)(h:Rows n rows){j:Nat}(hj:j<n):∀k,k≤rows.length→el (zPA n ys rows k) j=tj rows ys j k
 | 0,_=>zrm n j
 | k+1,hk=>by
  have f:=yek ys h hj k (by omega);obtain⟨p,a⟩:∃p,rows[k]? = some p:=⟨rows[k]'(by omega),List.getElem?_eq_getElem _⟩
  have g:=(h p (List.mem_of_getElem? a)).1;have i:=zPw (ys:=ys) h k (by omega);have b:(zPA n ys rows k)[j]? = some (el (zPA n ys rows k) j):=by
   rw[List.getElem?_eq_getElem (by omega)];unfold el;rw[List.getD_eq_getElem?_getD,List.getElem?_eq_getElem (by omega)];rfl
  have c:p.coef[j]? = some (el p.coef j):=by
   rw[List.getElem?_eq_getElem (by omega)];unfold el;rw[List.getD_eq_getElem?_getD,List.getElem?_eq_getElem (by omega)];rfl
  have e:=znd (zmR (r:=el ys k) b c);show el (zly (zPA n ys rows k) (el ys k) (rows.getD k default).coef) j=tj rows ys j (k+1)
  rw[zfC a,e,f];unfold tj;rw[zai,zfC a]
theorem yej{n:Nat}{rows:List PRow}(ys:List Rat)(h:Rows n rows){j:Nat}(hj:j<n):el (sv n ys rows) j=tj rows ys j rows.length:=yek ys h hj _ (Nat.le_refl _)
def yd6 (cost:List Rat) (rows:List PRow) (ys:List Rat) (j:Nat):Bool:=(List.range j).all fun i=>decide (tj rows ys i rows.length≤el cost i)
theorem yeg{n:Nat}{cost:List Rat}{rows:List PRow}{ys:List Rat}(h:Rows n rows)(hc:cost.length=n):yd6 cost rows ys n = !(yew n cost rows ys):=by
 have g:=yee (ys:=ys) h;have f:(zly cost ((-1:Int):Rat) (sv n ys rows)).length=n:=by rw[zdt (by omega),hc]
 have hg:∀j,j<n→(zly cost ((-1:Int):Rat) (sv n ys rows))[j]? = some (el cost j+((-1:Int):Rat)*tj rows ys j rows.length):=by
  intro j hj;rw[zmR (zaH (by omega)) (zaH (by omega)),yej ys h hj]
 have a:((-1:Int):Rat) = -1:=by rfl
 rw[Bool.eq_iff_iff];unfold yd6 yew;simp only[List.all_eq_true,List.mem_range,decide_eq_true_eq,Bool.not_eq_true',List.any_eq_false];constructor
 ·intro h1 q e;obtain⟨j,hj⟩:=List.mem_iff_getElem?.1 e;have c:j<n:=by have:=(List.getElem?_eq_some_iff.1 hj).1;omega
  rw[hg j c]at hj;have b:=h1 j c;rw[←Option.some.inj hj,a];grind
 ·intro h1 j hj;have b:=h1 _ (List.mem_of_getElem? (hg j hj));rw[a]at b;grind
theorem yd8{n:Nat}{cost:List Rat}{rows:List PRow}{ys:List Rat}(h:Rows n rows)(hc:cost.length=n):ydS n cost rows ys=(yd6 cost rows ys n&&zxD rows ys rows.length):=by
 unfold ydS zId;rw[yeg h hc,Bool.and_comm]
section
variable {n:Nat} {cost x y d:List Rat} {rows:List PRow} (h:Rows n rows) (hc:cost.length=n)
include h hc in
theorem ydU:ydS n cost rows y=true↔(∀j,j<n→tj rows y j rows.length≤el cost j)∧∀k,k<rows.length→zIc (rows.getD k default) (el y k)=true:=by
 rw[yd8 h hc,Bool.and_eq_true];unfold yd6 zxD;rw[List.all_eq_true,List.all_eq_true];exact⟨fun⟨a,b⟩=>⟨fun j hj=>of_decide_eq_true (a j (List.mem_range.2 hj)),fun k hk=>b k (List.mem_range.2 hk)⟩,fun⟨a,b⟩=>⟨fun j hj=>decide_eq_true (a j (List.mem_range.1 hj)),fun k hk=>b k (List.mem_range.1 hk)⟩⟩
theorem ydT:znD cost rows x=true↔x.length=cost.length∧(∀j,0≤el x j)∧∀p∈rows,zdH p x=true:=by
 unfold znD;rw[Bool.and_eq_true,Bool.and_eq_true,decide_eq_true_iff,Bool.not_eq_true',List.any_eq_false,List.all_eq_true];refine⟨fun⟨⟨a,b⟩,c⟩=>⟨a,fun j=>?_,c⟩,fun⟨a,b,c⟩=>⟨⟨a,fun q e=>?_⟩,c⟩⟩
 ·by_cases hj:j<x.length
  ·have:=b _ (List.mem_of_getElem? (zaH hj));have f:¬el x j<0:=by simpa using this
   grind
  ·rw[zDb (by omega)];exact Rat.le_refl
 ·obtain⟨j,hj⟩:=List.mem_iff_getElem?.1 e;have:=b j;rw[znd hj]at this;simpa using Rat.not_lt.2 this
include h in
include h in
include hc in
def ydZ (n:Nat) (cost:List Rat) (rows:List PRow) (x y:List Rat):Bool:=((List.range n).all fun j=>decide (el x j=0)||decide (el (sv n y rows) j=el cost j))&&(List.range rows.length).all fun k=>decide (zdp (rows.getD k default) x=0)||decide (el y k=0)
include h hc in
def yeu (n:Nat) (rows:List PRow) (y:List Rat):Bool:=zId rows y && !((scale ((-1:Int):Rat) (sv n y rows)).any fun q=>decide (q<0))&&decide (0<sb y rows)
include h in
theorem yea(f:yeu n rows y=true):(∀j,j<n→tj rows y j rows.length≤0)∧(∀k,k<rows.length→zIc (rows.getD k default) (el y k)=true)∧0<sb y rows:=by
 unfold yeu zId zxD at f;rw[Bool.and_eq_true,Bool.and_eq_true,decide_eq_true_iff,Bool.not_eq_true',List.any_eq_false,List.all_eq_true]at f;obtain⟨⟨a,b⟩,c⟩:=f;refine⟨fun j hj=>?_,fun k hk=>a k (List.mem_range.2 hk),c⟩;have l:=yee (ys:=y) h;have:=b _ (List.mem_of_getElem? (zvn (r:=((-1:Int):Rat)) (zaH (xs:=sv n y rows) (j:=j) (by omega))));have g:¬((-1:Int):Rat)*el (sv n y rows) j<0:=fun i=>this (decide_eq_true i)
 rw[yej y h hj]at g;have e:((-1:Int):Rat) = -1:=rfl;rw[e]at g;grind
include h in
def yey (cost:List Rat) (rows:List PRow) (x d:List Rat):Bool:=znD cost rows x&&decide (d.length=x.length) && !(d.any fun q=>decide (q<0))&&(rows.all fun p=>zdH ⟨p.coef,p.kind,0⟩ d)&&decide (dot cost d<0)
include h hc in
include h hc in
include h hc in
include h in
include h in
end
def yep (n:Nat) (cost:List Rat) (rows:List PRow) (y:List Rat):Bool:=decide (y.length=rows.length)&&ydS n cost rows y
def yeG (n:Nat) (cost:List Rat) (rows:List PRow) (x y:List Rat):Bool:=yep n cost rows y&&(znD cost rows x&&decide (sb y rows=dot cost x))
def yeD (n:Nat) (rows:List PRow) (y:List Rat):Bool:=decide (y.length=rows.length)&&yeu n rows y
def yev (n:Nat) (cost:List Rat) (rows:List PRow) (x y:List Rat):Bool:=decide (y.length=rows.length)&&(decide (x.length=cost.length)&&ydZ n cost rows x y)
theorem yeH{n:Nat}{cost x y:List Rat}{rows:List PRow}(h:yep n cost rows y=false∨znD cost rows x=false):yeG n cost rows x y=false:=by
 unfold yeG;rcases h with h | h<;>rw[h]<;>simp
theorem yeI{n:Nat}{cost x y:List Rat}{rows:List PRow}{j:Nat}(hj:j<n)(h1:el x j≠0)(a:el (sv n y rows) j≠el cost j):ydZ n cost rows x y=false:=by
 unfold ydZ;rw[Bool.and_eq_false_iff,List.all_eq_false];exact .inl ⟨j,List.mem_range.2 hj,by rw[decide_eq_false h1,decide_eq_false a];decide⟩
theorem yeJ{n:Nat}{cost x y:List Rat}{rows:List PRow}{k:Nat}(hk:k<rows.length)(h1:zdp (rows.getD k default) x≠0)(a:el y k≠0):ydZ n cost rows x y=false:=by
 unfold ydZ;rw[Bool.and_eq_false_iff,List.all_eq_false (l:=List.range rows.length)];exact .inr ⟨k,List.mem_range.2 hk,by rw[decide_eq_false h1,decide_eq_false a];decide⟩
theorem yeL{n:Nat}{cost x y:List Rat}{rows:List PRow}(h1:∀j,j<n→el x j=0∨el (sv n y rows) j=el cost j)(a:∀k,k<rows.length→zdp (rows.getD k default) x=0∨el y k=0):ydZ n cost rows x y=true:=by
 unfold ydZ;rw[Bool.and_eq_true,List.all_eq_true,List.all_eq_true];refine⟨fun j hj=>?_,fun k hk=>?_⟩
 ·rw[Bool.or_eq_true,decide_eq_true_iff,decide_eq_true_iff];exact h1 j (List.mem_range.1 hj)
 ·rw[Bool.or_eq_true,decide_eq_true_iff,decide_eq_true_iff];exact a k (List.mem_range.1 hk)
end Go.Proofs.YtbdhheepakmgkaaGreat
namespace Go.Proofs.YtbdhheepakmgkaaGreat
open Go.RowKit Am
open Lib (hid)
attribute [local go_sem ↓] Go.wp_at_zero Go.wp_at_succ
theorem Vc.below_dear(A:OA)(n c:Nat)(nc:Nat)(cost:List Rat)(rows:List PRow)(y:List Rat)(H:Nat)(w:World)(h:VecS w H (.slice A n c) (zly cost ((-1:Int):Rat) (sv nc y rows)))(b:Bool)(a:yew nc cost rows y=b) :
  Calls Tryz.prog 37 #[.slice A n c] w fun e w'=>e=.returned (.bool b)∧Below w.heap.size w w':=by
 rw[←a];exact Vc.below A n c _ H w h
namespace Ct
theorem yeB(C:OA)(nc cc:Nat)(R:OA)(nr a:Nat)(cost:List Rat)(rows:List PRow)(Y:OA)(g f:Nat)(y:List Rat)(w:World)(hc:VecS w 0 (.slice C nc cc) cost)(hr:RowsS w 0 (.slice R nr a) rows)(l:VecS w 0 (.slice Y g f) y)(k:y.length≠rows.length) :
  Calls Tryz.prog 11 #[.agg #[.slice C nc cc,.slice R nr a],.slice Y g f] w (zii w 0 false):=by
 have q:=hid k;clear k;obtain⟨W,b⟩:∃W,((w.alloc (.cells #[.slice C nc cc,.slice R nr a] 31)).alloc (.cells #[.bool false,.slice none 0 0,.slice none 0 0] 47))=W:=⟨_,rfl⟩
 have i:=hid (show W.heap[w.heap.size]? = some (.cells #[.slice C nc cc,.slice R nr a] 31 (0,0))by rw[←b];exact zak (zam (by simp)));have j:=hid (show W.heap[w.heap.size+1]? = some (.cells #[.bool false,.slice none 0 0,.slice none 0 0] 47 (0,0))by rw[←b];exact zam (by simp));have c:=hid (show Below w.heap.size w W by rw[←b];exact(zae w _).alloc (by simp) _);have o:=hid (show VecS W 0 (.slice C nc cc) cost by rw[←b];exact((hc).alloc _).alloc _)
 have s:=hid (show VecS W 0 (.slice Y g f) y by rw[←b];exact((l).alloc _).alloc _);have r:=hid (show RowsS W 0 (.slice R nr a) rows by rw[←b];exact((hr).alloc _).alloc _);obtain⟨L,P,M,I⟩:=bc2 i.out;obtain⟨Z,X,ak,T,U,aa,ac,Q,ad,ai,ap,ao⟩:=bf3 j.out;clear hc hr l;go_enter Tryz.func11,Tryz.ntmps11;go_wp2_with fail
 clear b;with_reducible refine(yeM C nc cc R nr a cost rows Y g f y _ o.out r.out s.out q.out).mono ?_
 rintro e w1 ⟨S2,ns2,cs2,g2,A2,m2,c2,D2,md2,cd2,rfl,hv,hn,hb⟩;have A:=hid (show(w1.alloc (.cells #[.bool g2,.slice A2 m2 c2,.slice D2 md2 cd2] 47)).heap[w.heap.size]? = some (.cells #[.slice C nc cc,.slice R nr a] 31 (0,0))from zak (zad hb i.out));have m:=hid (show(w1.alloc (.cells #[.bool g2,.slice A2 m2 c2,.slice D2 md2 cd2] 47)).heap[w.heap.size+1]? = some (.cells #[.bool false,.slice none 0 0,.slice none 0 0] 47 (0,0))from zak (zad hb j.out))
 have u:=hid (show Below w.heap.size w (w1.alloc (.cells #[.bool g2,.slice A2 m2 c2,.slice D2 md2 cd2] 47))from((c.out.trans ((hb).mono c.out.size))).alloc ((c.out.trans ((hb).mono c.out.size))).size _);have G:=hid (show(w1.alloc (.cells #[.bool g2,.slice A2 m2 c2,.slice D2 md2 cd2] 47)).heap[w1.heap.size]? = some (.cells #[.bool g2,.slice A2 m2 c2,.slice D2 md2 cd2] 47 (0,0))from zam (by simp));obtain⟨J,N,K,O⟩:=bc2 A.out;obtain⟨D,z,aj,S,E,t,ag,V,B,F,al,ah⟩:=bf3 m.out
 obtain⟨am,ae,an,af,aq,ab⟩:=bc3 G.out;clear hv hn hb;go_wp2;refine bodyPost_ret (v:=.tuple #[.agg #[.bool false,.slice none 0 0,.slice none 0 0],.bool false]) (by simp[results,Tryz.results11,go_sem,D,z,E,t,B,F]) rfl ?_;exact⟨_,_,_,_,_,_,_,rfl,(RatS.zero _).set3 m.out (by decide) _ _ _,bsc (bsc (bsc u.out))⟩
theorem yeC(C:OA)(nc cc:Nat)(R:OA)(nr b:Nat)(cost:List Rat)(rows:List PRow)(Y:OA)(i g:Nat)(y:List Rat)(w:World)(hc:VecS w 0 (.slice C nc cc) cost)(hr:RowsS w 0 (.slice R nr b) rows)(hy:VecS w 0 (.slice Y i g) y)(Z:y.length=rows.length)(hg:Good nc nr cost rows)(zy:Sm y)(X:cost.length=nc) :
  Calls Tryz.prog 11 #[.agg #[.slice C nc cc,.slice R nr b],.slice Y i g] w (zii w (if ydS nc cost rows y then sb y rows else 0) (ydS nc cost rows y)):=by
 have P:=hid Z;have a:=hid hg;have V:=hid zy;have aA:=hid X;have aB:=hid (show rows.length≤4 by rw[←hr.len];exact hg.hr);generalize hBB:ydS nc cost rows y=bb;generalize hBQ:(if bb=true then sb y rows else 0)=bq;have s:=hid hBB;have t:=hid hBQ;clear Z hg zy X hBB hBQ;obtain⟨W,f⟩:∃W,((w.alloc (.cells #[.slice C nc cc,.slice R nr b] 31)).alloc (.cells #[.bool false,.slice none 0 0,.slice none 0 0] 47))=W:=⟨_,rfl⟩
 have T:=hid (show W.heap[w.heap.size]? = some (.cells #[.slice C nc cc,.slice R nr b] 31 (0,0))by rw[←f];exact zak (zam (by simp)));have U:=hid (show W.heap[w.heap.size+1]? = some (.cells #[.bool false,.slice none 0 0,.slice none 0 0] 47 (0,0))by rw[←f];exact zam (by simp));have m:=hid (show Below w.heap.size w W by rw[←f];exact(zae w _).alloc (by simp) _);have O:=hid (show VecS W 0 (.slice C nc cc) cost by rw[←f];exact((hc).alloc _).alloc _)
 have S:=hid (show VecS W 0 (.slice Y i g) y by rw[←f];exact((hy).alloc _).alloc _);have Q:=hid (show RowsS W 0 (.slice R nr b) rows by rw[←f];exact((hr).alloc _).alloc _);obtain⟨bo,bx,bp,bj⟩:=bc2 T.out;obtain⟨bO,bK,cd,bG,bI,bT,bX,bC,b0,b7,cB,cm⟩:=bf3 U.out;clear hc hr hy;go_enter Tryz.func11,Tryz.ntmps11;go_wp2_with fail
 clear f;with_reducible refine(yeN C nc cc R nr b cost rows Y i g y _ O.out Q.out S.out P.out a.out.hr (Nat.le_trans a.out.hc (by decide)) a.out.rw_ V.out).mono ?_
 rintro e w1 ⟨S2,ns2,cs2,g2,A2,m2,c2,D2,md2,cd2,rfl,hv,hn,hb⟩;have al:=hid (show(w1.alloc (.cells #[.bool g2,.slice A2 m2 c2,.slice D2 md2 cd2] 47)).heap[w.heap.size]? = some (.cells #[.slice C nc cc,.slice R nr b] 31 (0,0))from zak (zad hb T.out));have ai:=hid (show(w1.alloc (.cells #[.bool g2,.slice A2 m2 c2,.slice D2 md2 cd2] 47)).heap[w.heap.size+1]? = some (.cells #[.bool false,.slice none 0 0,.slice none 0 0] 47 (0,0))from zak (zad hb U.out))
 have ay:=hid (show VecS (w1.alloc (.cells #[.bool g2,.slice A2 m2 c2,.slice D2 md2 cd2] 47)) 0 (.slice C nc cc) cost from(O.out.below hb).alloc _);have be:=hid (show VecS (w1.alloc (.cells #[.bool g2,.slice A2 m2 c2,.slice D2 md2 cd2] 47)) 0 (.slice Y i g) y from(S.out.below hb).alloc _);have au:=hid (show RowsS (w1.alloc (.cells #[.bool g2,.slice A2 m2 c2,.slice D2 md2 cd2] 47)) 0 (.slice R nr b) rows from(Q.out.below hb).alloc _)
 have HV:=hid (show VecS (w1.alloc (.cells #[.bool g2,.slice A2 m2 c2,.slice D2 md2 cd2] 47)) 0 (.slice S2 ns2 cs2) (sv nc y rows)from((hv.base (Nat.zero_le _))).alloc _);have HS:=hid (show RatS (w1.alloc (.cells #[.bool g2,.slice A2 m2 c2,.slice D2 md2 cd2] 47)) g2 (.slice A2 m2 c2) (.slice D2 md2 cd2) (sb y rows)from(hn).alloc _)
 have ak:=hid (show Below w.heap.size w (w1.alloc (.cells #[.bool g2,.slice A2 m2 c2,.slice D2 md2 cd2] 47))from((m.out.trans ((hb).mono m.out.size))).alloc ((m.out.trans ((hb).mono m.out.size))).size _);have ap:=hid (show(w1.alloc (.cells #[.bool g2,.slice A2 m2 c2,.slice D2 md2 cd2] 47)).heap[w1.heap.size]? = some (.cells #[.bool g2,.slice A2 m2 c2,.slice D2 md2 cd2] 47 (0,0))from zam (by simp));obtain⟨bm,bv,bn,bw⟩:=bc2 al.out;obtain⟨bL,bt,b8,bE,bP,bi,b4,bJ,bD,bU,ch,b6⟩:=bf3 ai.out
 obtain⟨ck,b1,cl,b2,cD,bW⟩:=bc3 ap.out;clear hv hn hb;go_wp2_with fail
 with_reducible refine(Pb.may C nc cc R nr b cost rows _ ay.out au.out a.out.hc (Nat.le_trans a.out.hr (by decide)) a.out.rw_ a.out.kd).mono ?_
 rintro e w2 ⟨rfl,hb⟩;have aj:=hid (zad hb al.out);have am:=hid (zad hb ai.out);have ar:=hid (zad hb ap.out);have ad:=hid (ay.out.below hb);have ab:=hid (be.out.below hb);have ax:=hid (au.out.below hb);have bd:=hid (HV.out.below hb);have aM:=hid (HS.out.below hb);have an:=hid (ak.out.trans ((hb).mono ak.out.size));obtain⟨br,bk,bs,bl⟩:=bc2 aj.out;obtain⟨bM,bu,bB,bQ,bN,bh,b9,bF,bV,bH,cC,cn⟩:=bf3 am.out;obtain⟨cu,cq,cv,cs,cH,ce⟩:=bc3 ar.out;clear hb;go_wp2_with fail
 with_reducible refine(signed C nc cc R nr b cost rows Y i g y _ ad.out ax.out ab.out P.out (Nat.le_trans a.out.hr (by decide))).mono ?_
 rintro e w3 ⟨rfl,hb⟩;have ao:=hid (zad hb aj.out);have G:=hid (zad hb am.out);have av:=hid (zad hb ar.out);have ae:=hid (ad.out.below hb);have aJ:=hid (ab.out.below hb);have aK:=hid (ax.out.below hb);have aw:=hid (bd.out.below hb);have aN:=hid (aM.out.below hb);have A:=hid (an.out.trans ((hb).mono an.out.size));obtain⟨co,bz,cp,bA⟩:=bc2 ao.out;obtain⟨a5,aT,cP,cE,a6,aU,cM,cF,a7,aY,cN,cG⟩:=bf3 G.out;obtain⟨cT,cQ,cU,cR,cV,cS⟩:=bc3 av.out;clear hb;cases hsg:zId rows y
 ·have k:ydS nc cost rows y=false:=by unfold ydS;rw[hsg];rfl
  go_wp2;refine bodyPost_ret (v:=.tuple #[.agg #[.bool false,.slice none 0 0,.slice none 0 0],.bool false]) (by simp[results,Tryz.results11,go_sem,a5,aT,a6,aU,a7,aY]) rfl ?_;have c:bb=false:=s.out.symm.trans k;have j:bq=0:=by rw[←t.out,c];rfl
  subst c j;exact⟨_,_,_,_,_,_,_,rfl,(RatS.zero _).set3 G.out (by decide) _ _ _,bsc (bsc (bsc A.out))⟩
 ·skip
  go_wp2_with fail
  with_reducible refine(Vc.sub C nc cc cost S2 ns2 cs2 (sv nc y rows) 0 0 _ ae.out aw.out (by rw[yee a.out.rw_,aA.out]) (Nat.le_trans a.out.hc (by decide)) (fun q hq=>Nat.le_trans (a.out.sc q hq) (by decide)) (yeT a.out.rw_ V.out aB.out)).mono ?_
  rintro e w4 ⟨T3,nt3,ct3,rfl,hv,hb⟩;have u:=hid (zad hb ao.out);have z:=hid (zad hb G.out);have J:=hid (zad hb av.out);have ag:=hid (ae.out.below hb);have ac:=hid (aJ.out.below hb);have az:=hid (aK.out.below hb);have aq:=hid (aw.out.below hb);have af:=hid (aN.out.below hb);have o:=hid (show VecS w4 0 (.slice T3 nt3 ct3) (zly cost ((-1:Int):Rat) (sv nc y rows))from(hv.base (Nat.zero_le _)));have r:=hid (A.out.trans ((hb).mono A.out.size));obtain⟨ca,bR,cb,bS⟩:=bc2 u.out
  obtain⟨ci,bY,cf,b3,cj,bZ,cg,b5,cJ,cw,cA,ct⟩:=bf3 z.out;obtain⟨cK,cx,cL,cz,cO,cI⟩:=bc3 J.out;clear hv hb;go_wp2_with fail
  cases hde:yew nc cost rows y
  ·have k:ydS nc cost rows y=true:=by unfold ydS;rw[hsg,hde];rfl
   with_reducible refine(Vc.below_dear T3 nt3 ct3 nc cost rows y 0 _ o.out false hde).mono ?_
   rintro e w5 ⟨rfl,hb⟩;have B:=hid (zad hb u.out);have l:=hid (zad hb z.out);have K:=hid (zad hb J.out);have aO:=hid (ag.out.below hb);have aI:=hid (ac.out.below hb);have aL:=hid (az.out.below hb);have bc:=hid (aq.out.below hb);have ah:=hid (af.out.below hb);have aH:=hid (o.out.below hb);have D:=hid (r.out.trans ((hb).mono r.out.size));obtain⟨aR,aP,aS,aQ⟩:=bc2 B.out;obtain⟨L,E,a2,aV,M,F,a3,aW,N,I,a4,aX⟩:=bf3 l.out;obtain⟨a8,aZ,a9,a0,ba,a1⟩:=bc3 K.out;clear hb;go_wp2
   refine bodyPost_ret (v:=.tuple #[.agg #[.bool g2,.slice A2 m2 c2,.slice D2 md2 cd2],.bool true]) (by simp[results,Tryz.results11,go_sem,L,E,M,F,N,I]) rfl ?_;have c:bb=true:=s.out.symm.trans k;have j:bq=sb y rows:=by rw[←t.out,c];rfl
   subst c j;exact⟨_,_,_,_,_,_,_,rfl,ah.out.set3 l.out (by decide) _ _ _,bsc (bsc (bsc D.out))⟩
  ·have k:ydS nc cost rows y=false:=by unfold ydS;rw[hsg,hde];rfl
   with_reducible refine(Vc.below_dear T3 nt3 ct3 nc cost rows y 0 _ o.out true hde).mono ?_
   rintro e w5 ⟨rfl,hb⟩;have B:=hid (zad hb u.out);have l:=hid (zad hb z.out);have K:=hid (zad hb J.out);have aO:=hid (ag.out.below hb);have aI:=hid (ac.out.below hb);have aL:=hid (az.out.below hb);have bc:=hid (aq.out.below hb);have ah:=hid (af.out.below hb);have aH:=hid (o.out.below hb);have D:=hid (r.out.trans ((hb).mono r.out.size));obtain⟨aR,aP,aS,aQ⟩:=bc2 B.out;obtain⟨L,E,a2,aV,M,F,a3,aW,N,I,a4,aX⟩:=bf3 l.out;obtain⟨a8,aZ,a9,a0,ba,a1⟩:=bc3 K.out;clear hb;go_wp2
   refine bodyPost_ret (v:=.tuple #[.agg #[.bool false,.slice none 0 0,.slice none 0 0],.bool false]) (by simp[results,Tryz.results11,go_sem,L,E,M,F,N,I]) rfl ?_;have c:bb=false:=s.out.symm.trans k;have j:bq=0:=by rw[←t.out,c];rfl
   subst c j;exact⟨_,_,_,_,_,_,_,rfl,(RatS.zero _).set3 l.out (by decide) _ _ _,bsc (bsc (bsc D.out))⟩
end Ct
namespace Ct
theorem same_yes(g:Bool)(A:OA)(m c:Nat)(D:OA)(l j:Nat)(a:Rat)(g':Bool)(f:OA)(m' c':Nat)(i:OA)(o k:Nat)(b:Rat)(w:World)(h:RatS w g (.slice A m c) (.slice D l j) a)(p:RatS w g' (.slice f m' c') (.slice i o k) b)(r:4*(mw a+mw b)+8≤LIM)(q:a=b) :
  Calls Tryz.prog 13 #[.agg #[.bool g,.slice A m c,.slice D l j],.agg #[.bool g',.slice f m' c',.slice i o k]] w fun e w'=>e=.returned (.bool true)∧Below w.heap.size w w':=by
 have h:=Rt.same g A m c D l j a g' f m' c' i o k b w h p r;rw[show zA9 a b=true from decide_eq_true q]at h;exact h
end Ct
namespace Rt
theorem num_of(g:Bool)(A:OA)(m c:Nat)(D:OA)(b a:Nat)(q:Rat)(w:World)(h:RatS w g (.slice A m c) (.slice D b a) q) :
  Calls Tryz.prog 48 #[.agg #[.bool g,.slice A m c,.slice D b a]] w (zfg w q.num) :=
 (num g A m c D b a q w h).mono (by rintro e w' ⟨rfl,hb⟩;exact⟨g,A,m,c,rfl,(h.below hb).num,hb⟩)
theorem icmp_same(g:Bool)(A:OA)(m c:Nat)(x:Int)(g':Bool)(B:OA)(m' c':Nat)(y:Int)(w:World)(h:IntS w g (.slice A m c) x)(a:IntS w g' (.slice B m' c') y)(e:x=y) :
  Calls Tryz.prog 47 #[.agg #[.bool g,.slice A m c],.agg #[.bool g',.slice B m' c']] w fun e w'=>e=.returned (.int .i64 0)∧Below w.heap.size w w':=by
 have h1:=It.cmp g A m c x g' B m' c' y w h a;rw[zgN e]at h1;exact h1
theorem ncmp_same(A B:OA)(m c m' c' a b:Nat)(w:World)(f:zas w (.slice A m c) a)(g:zas w (.slice B m' c') b)(e:a=b) :
  Calls Tryz.prog 49 #[.agg #[.slice A m c],.agg #[.slice B m' c']] w fun e w'=>e=.returned (.int .i64 0)∧Below w.heap.size w w':=by
 have h1:=Nt.cmp A B m c m' c' a b w f g;rw[zgN (by rw[e])]at h1;exact h1
end Rt
namespace Lw
theorem z6u(g:Bool)(A:OA)(m c:Nat)(D:OA)(f b:Nat)(a:Rat)(p q:Int)(w:World)(h:RatS w g (.slice A m c) (.slice D f b) a)(v:q≠0)(u:I64 p)(z:I64 q)(i:a=Rat.divInt p q)(hm:mw a≤1000000) :
  Calls Tryz.prog 18 #[.agg #[.bool g,.slice A m c,.slice D f b],.int .i64 p,.int .i64 q] w fun e w'=>e=.returned (.bool true)∧Below w.heap.size w w':=by
 have HQ:=hid v;have l:=hid u;have o:=hid z;have HA:=hid i;have HL:=hid (show 4*(mw a+mw (Rat.divInt p q))+8≤LIM by rw[←i];have:=zaP;omega);have HN:=hid (show a.num=(Rat.divInt p q).num by rw[i]);have HD:=hid (show a.den=(Rat.divInt p q).den by rw[i]);clear v u z i hm;generalize hr:Rat.divInt p q=r at *
 have HR:=hid hr;clear hr;obtain⟨W,k⟩:∃W,(w.alloc (.cells #[.bool g,.slice A m c,.slice D f b] 47))=W:=⟨_,rfl⟩
 have t:=hid (show W.heap[w.heap.size]? = some (.cells #[.bool g,.slice A m c,.slice D f b] 47 (0,0))by rw[←k];exact zam (by simp));have j:=hid (show Below w.heap.size w W by rw[←k];exact zae w _);have HX:=hid (show RatS W g (.slice A m c) (.slice D f b) a by rw[←k];exact(h).alloc _);obtain⟨aW,a4,aX,aR,ba,bi⟩:=bc3 t.out;clear h;go_enter Tryz.func18,Tryz.ntmps18;go_wp2_with fail
 clear k;with_reducible refine(Rt.of p q HQ.out l.out.1 l.out.2 o.out.1 o.out.2 _).mono ?_
 rintro e w1 ⟨g2,A2,m2,c2,D2,md2,cd2,rfl,hn,hb⟩;have G:=hid (show(w1.alloc (.cells #[.bool g2,.slice A2 m2 c2,.slice D2 md2 cd2] 47)).heap[w.heap.size]? = some (.cells #[.bool g,.slice A m c,.slice D f b] 47 (0,0))from zak (zad hb t.out));have V:=hid (show RatS (w1.alloc (.cells #[.bool g2,.slice A2 m2 c2,.slice D2 md2 cd2] 47)) g (.slice A m c) (.slice D f b) a from(HX.out.below hb).alloc _)
 have s:=hid (show RatS (w1.alloc (.cells #[.bool g2,.slice A2 m2 c2,.slice D2 md2 cd2] 47)) g2 (.slice A2 m2 c2) (.slice D2 md2 cd2) r from((HR.out▸hn)).alloc _);have F:=hid (show Below w.heap.size w (w1.alloc (.cells #[.bool g2,.slice A2 m2 c2,.slice D2 md2 cd2] 47))from((j.out.trans ((hb).mono j.out.size))).alloc ((j.out.trans ((hb).mono j.out.size))).size _)
 have C:=hid (show(w1.alloc (.cells #[.bool g2,.slice A2 m2 c2,.slice D2 md2 cd2] 47)).heap[w1.heap.size]? = some (.cells #[.bool g2,.slice A2 m2 c2,.slice D2 md2 cd2] 47 (0,0))from zam (by simp));obtain⟨aU,a2,aV,a3,a8,bc⟩:=bc3 G.out;obtain⟨bb,a0,bf,aQ,a7,bj⟩:=bc3 C.out;clear hn hb;go_wp2_with fail
 go_region_held3 (fun w'=>w'.cell? ⟨w.heap.size,0,none⟩=some (.bool g)∧w'.cell? ⟨w.heap.size,1,none⟩=some (.slice A m c)∧w'.cell? ⟨w.heap.size,2,none⟩=some (.slice D f b)∧w'.cell? ⟨w1.heap.size,0,none⟩=some (.bool g2)∧w'.cell? ⟨w1.heap.size,1,none⟩=some (.slice A2 m2 c2)∧w'.cell? ⟨w1.heap.size,2,none⟩=some (.slice D2 md2 cd2))
  (((try go_split_ands);(try simp only[World.cell?_drew]);(repeat' apply And.intro)<;>(repeat(first | with_reducible assumption | with_reducible refine cell_set (by omega) ?_ | with_reducible refine cell_al ?_))))
  (first
   | (go_at_call 13;(with_reducible refine(Ct.same_yes g A m c D f b a g2 A2 m2 c2 D2 md2 cd2 r _ V.out.drew s.out.drew HL.out HA.out).mono ?_);rintro e v1 ⟨rfl,hb⟩;have E:=hid (zad hb G.out);have I:=hid (zad hb C.out);have ab:=hid (V.out.drew.below hb);have ay:=hid (s.out.drew.below hb);have J:=hid (F.out.trans ((It.bdrew0' hb).mono F.out.size));obtain⟨aY,aS,aZ,aT,bz,br⟩:=bc3 E.out;obtain⟨bd,a1,be,aP,bk,a9⟩:=bc3 I.out;clear hb)
   | (go_at_call 48;(with_reducible refine(Rt.num_of g A m c D f b a _ ab.out).mono ?_);rintro e v2 ⟨g3,A3,m3,c3,rfl,hn,hb⟩;have K:=hid (zad hb E.out);have T:=hid (zad hb I.out);have aD:=hid (ab.out.below hb);have B:=hid (ay.out.below hb);have HI:=hid (show IntS v2 g3 (.slice A3 m3 c3) a.num from hn);have N:=hid (J.out.trans ((hb).mono J.out.size));obtain⟨bw,a5,bx,a6,b1,bU⟩:=bc3 K.out;obtain⟨bN,bB,bP,bD,bS,bH⟩:=bc3 T.out;clear hn hb)
   | (go_at_call 48;(with_reducible refine(Rt.num_of g2 A2 m2 c2 D2 md2 cd2 r _ B.out).mono ?_);rintro e v3 ⟨g4,A4,m4,c4,rfl,hn,hb⟩;have L:=hid (zad hb K.out);have M:=hid (zad hb T.out);have aw:=hid (aD.out.below hb);have az:=hid (B.out.below hb);have aA:=hid (HI.out.below hb);have HJ:=hid (show IntS v3 g4 (.slice A4 m4 c4) r.num from hn);have R:=hid (N.out.trans ((hb).mono N.out.size));obtain⟨bp,bg,bq,bh,b5,bZ⟩:=bc3 L.out;obtain⟨bu,bn,bv,bo,bR,bF⟩:=bc3 M.out;clear hn hb)
   | (go_at_call 47;(with_reducible refine(Rt.icmp_same g3 A3 m3 c3 a.num g4 A4 m4 c4 r.num _ aA.out HJ.out HN.out).mono ?_);rintro e v4 ⟨rfl,hb⟩;have O:=hid (zad hb L.out);have Q:=hid (zad hb M.out);have ax:=hid (aw.out.below hb);have ar:=hid (az.out.below hb);have S:=hid (R.out.trans ((hb).mono R.out.size));obtain⟨bs,bl,bt,bm,b6,b4⟩:=bc3 O.out;obtain⟨bO,bC,bQ,bE,bT,bI⟩:=bc3 Q.out;clear hb)
   | (go_at_call 44;(with_reducible refine(Rt.den g A m c D f b a _ ax.out).mono ?_);rintro e v5 ⟨A5,m5,c5,rfl,hn,hb⟩;have P:=hid (zad hb O.out);have X:=hid (zad hb Q.out);have au:=hid (ar.out.below hb);have HK:=hid (show zas v5 (.slice A5 m5 c5) a.den from hn);have Y:=hid (S.out.trans ((hb).mono S.out.size));obtain⟨bL,bG,bM,bA,aN,ck⟩:=bc3 P.out;obtain⟨b2,bV,b3,bW,b7,b0⟩:=bc3 X.out;clear hn hb)
   | (go_at_call 44;(with_reducible refine(Rt.den g2 A2 m2 c2 D2 md2 cd2 r _ au.out).mono ?_);rintro e v6 ⟨A6,m6,c6,rfl,hn,hb⟩;have U:=hid (zad hb P.out);have Z:=hid (zad hb X.out);have av:=hid (HK.out.below hb);have HM:=hid (show zas v6 (.slice A6 m6 c6) r.den from hn);have aa:=hid (Y.out.trans ((hb).mono Y.out.size));obtain⟨bX,bJ,bY,bK,aO,cl⟩:=bc3 U.out;obtain⟨aH,ce,aJ,cg,aL,ci⟩:=bc3 Z.out;clear hn hb)
   | (go_at_call 49;(with_reducible refine(Rt.ncmp_same A5 A6 m5 c5 m6 c6 a.den r.den _ av.out HM.out HD.out).mono ?_);rintro e v7 ⟨rfl,hb⟩;have aE:=hid (zad hb U.out);have aB:=hid (zad hb Z.out);have aC:=hid (aa.out.trans ((hb).mono aa.out.size));obtain⟨b8,b9,ca,cb,cc,cm⟩:=bc3 aE.out;obtain⟨aI,cf,aK,ch,aM,cj⟩:=bc3 aB.out;clear hb)
   | fail)
 all_goals
  go_wp2;go_ret
  exact⟨rfl,aC.out⟩
end Lw
end Go.Proofs.YtbdhheepakmgkaaGreat
namespace Go.Proofs.YtbdhheepakmgkaaGreat
open Go.RowKit Am
open Lib (hid)
theorem zqg(w:World)(a b:Int):∀(j:Nat) (x:Int),[a,b][j]? = some x→(w.alloc (.cells #[.int .i64 a,.int .i64 b] 3)).cell? ⟨w.heap.size,j,none⟩=some (.int .i64 x):=by
 intro j x h
 match j,h with
 | 0,h=>simp at h;subst h;exact zax rfl rfl
 | 1,h=>simp at h;subst h;exact zax rfl rfl
 | j+2,h=>simp at h
theorem z6h(w:World)(a:Int):∀(j:Nat) (x:Int),[a][j]? = some x→(w.alloc (.cells #[.int .i64 a] 3)).cell? ⟨w.heap.size,j,none⟩=some (.int .i64 x):=by
 intro j x h
 match j,h with
 | 0,h=>simp at h;subst h;exact zax rfl rfl
 | j+1,h=>simp at h
theorem zyt{w:World}{b:Nat}(e:w.heap.size=b)(a c:Int):∀(j:Nat) (x:Int),[a,c][j]? = some x→(w.alloc (.cells #[.int .i64 a,.int .i64 c] 3)).cell? ⟨b,j,none⟩=some (.int .i64 x):=by
 subst e;exact zqg w a c
theorem z6k{w:World}{b:Nat}(c:w.heap.size=b)(a:Int):∀(j:Nat) (x:Int),[a][j]? = some x→(w.alloc (.cells #[.int .i64 a] 3)).cell? ⟨b,j,none⟩=some (.int .i64 x):=by
 subst c;exact z6h w a
theorem zuW{w:World}{b:Nat}{xs:List Int}(h:∀(j:Nat) (x:Int),xs[j]? = some x→w.cell? ⟨b,j,none⟩=some (.int .i64 x)):∀(j:Nat) (x:Int),xs[j]? = some x→w.drew.cell? ⟨b,j,none⟩=some (.int .i64 x):=h
theorem zAV{w:World}{b:Nat}{xs:List Int}{o:Obj}(h:∀(j:Nat) (x:Int),xs[j]? = some x→w.cell? ⟨b,j,none⟩=some (.int .i64 x)):∀(j:Nat) (x:Int),xs[j]? = some x→(w.alloc o).cell? ⟨b,j,none⟩=some (.int .i64 x):=fun j x a=>cell_al (h j x a)
theorem z6g{u:World}{b:Nat}(l:u.heap.size=b){g g':Bool}{s d f c:Value}{q i:Rat}(h:RatS u g s d q)(j:RatS u g' f c i):VecS (u.alloc (.cells #[.bool g,s,d,.bool g',f,c] 47)) 0 (.slice (some ⟨b,0,none⟩) 2 2) [q,i]:=by
 subst l;have m:=World.ownsRow_lit (e:=47) (size:=3) (base:=0) u #[.bool g,s,d,.bool g',f,c] 2 (Nat.zero_le _) (by decide) rfl;refine⟨[(g,s,d),(g',f,c)],rfl,?_,m⟩;intro k r o h1 a
 match k,h1,a with
 | 0,h1,a=>simp at h1 a;subst h1 a;exact h.alloc _
 | 1,h1,a=>simp at h1 a;subst h1 a;exact j.alloc _
 | k+2,h1,_=>simp at h1
theorem zMk{u:World}{b:Nat}(f:u.heap.size=b){r:RR}{p:PRow}(h:RowS u r p):RowsS (u.alloc (.cells #[r.c,.int .i64 r.k,.bool r.g,r.s,r.d] 60)) 0 (.slice (some ⟨b,0,none⟩) 1 1) [p]:=by
 subst f;have i:=World.ownsRow_lit (e:=60) (size:=5) (base:=0) u #[r.c,.int .i64 r.k,.bool r.g,r.s,r.d] 1 (Nat.zero_le _) (by decide) rfl;refine⟨[r],rfl,?_,i⟩;intro k l j h1 a
 match k,h1,a with
 | 0,h1,a=>simp at h1 a;subst h1 a;exact h.below (zae u _)
 | k+1,h1,_=>simp at h1
theorem zoX{u:World}{b:Nat}(i:u.heap.size=b){r r':RR}{p p':PRow}(h:RowS u r p)(f:RowS u r' p'):RowsS (u.alloc (.cells #[r.c,.int .i64 r.k,.bool r.g,r.s,r.d,r'.c,.int .i64 r'.k,.bool r'.g,r'.s,r'.d] 60)) 0 (.slice (some ⟨b,0,none⟩) 2 2) [p,p']:=by
 subst i;have j:=World.ownsRow_lit (e:=60) (size:=5) (base:=0) u #[r.c,.int .i64 r.k,.bool r.g,r.s,r.d,r'.c,.int .i64 r'.k,.bool r'.g,r'.s,r'.d] 2 (Nat.zero_le _) (by decide) rfl;refine⟨[r,r'],rfl,?_,j⟩;intro k m l h1 a
 match k,h1,a with
 | 0,h1,a=>simp at h1 a;subst h1 a;exact h.below (zae u _)
 | 1,h1,a=>simp at h1 a;subst h1 a;exact f.below (zae u _)
 | k+2,h1,_=>simp at h1
