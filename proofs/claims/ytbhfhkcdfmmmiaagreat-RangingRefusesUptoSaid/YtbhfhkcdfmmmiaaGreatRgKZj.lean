/- Contracts and lemmas: C20 RgK RgO. Conditions: as each says. -/
import Derived.Test.YtbhfhkcdfmmmiaaGreatRgFZj
import Derived.Test.YtbhfhkcdfmmmiaaGreatRgXZj
set_option linter.all false
set_option maxRecDepth 100000
namespace Go.Proofs.YtbhfhkcdfmmmiaaGreat
open Go.RowKit Am
variable {o:Int}{rows:List PRow}{X Y Z cost g:List Rat}{B S e k m nC:Nat}
theorem Good1.good{nc nr:Nat}(h:Good1 nc nr cost rows):Good nc nr cost rows :=
 ⟨Zc h.hc (by decide),h.hr,fun q b=>Zc (h.sc q b) (by decide),fun p a=>⟨(h.rw_ p a).1,fun q b=>Zc ((h.rw_ p a).2.1 q b) (by decide),Zc (h.rw_ p a).2.2 (by decide)⟩,h.kd⟩
theorem yfb{ps:List (Int × Int)}(h:∀q∈frs ps,mw q≤1):Sm (frs ps):=by grind
theorem Sol.sx(h:Sol nC m cost rows 1 o X Y Z)(hm:m≤4):∀q∈X,mw q≤1000000:=fun q a=>Zc (h.zx q a) (zVF m hm)
theorem Sol.sy(h:Sol nC m cost rows 1 o X Y Z)(hm:m≤4):∀q∈Y,mw q≤1000000:=fun q a=>Zc (h.zy q a) (zVF m hm)
theorem Sol.sz(h:Sol nC m cost rows 1 o X Y Z)(hm:m≤4):∀q∈Z,mw q≤1000002:=fun q a=>Zc (h.zz q a) (by have:=zVF m hm;omega)
theorem yZL{y:List Rat}(h:Rows nC rows)(hc:cost.length=nC)(c:yep nC cost rows y=true):Signs rows.length rows y∧∀j,j<nC→zai rows.length (fun i=>el y i*el (rows.getD i default).coef j)≤el cost j:=by
 obtain⟨f,d⟩:=yei c;obtain⟨h1,b⟩:=(ydU h hc).1 d;refine⟨⟨f,fun k hk e=>?_,fun k hk e=>?_⟩,h1⟩
 ·have:=b k hk;unfold zIc at this;rw[Yb,Y7,YF,Zs e]at this;grind
 ·have:=b k hk;unfold zIc at this;rw[Yb,Y7,YF (x:=decide ((rows.getD k default).kind=2)),Zs e]at this;grind
theorem yZM{lo hi:Option Rat}{x:Rat}(h1:∀a,lo=some a→a≤x)(b:∀a,hi=some a→x≤a):yJO lo.isSome hi.isSome (lo.getD 0) (hi.getD 0) x=true:=by
 unfold yJO;cases lo<;>cases hi<;>simp_all [Rat.not_lt]
theorem yZS(c:e<2)(hg:GoodS S nC m g rows)(d:g.length=nC)(f:rows.length=m){q:Option Rat}(h:yVC nC g rows B e=.val q):mw (q.getD 0)≤8000002000:=by
 subst f;have G:=hg.sg (ySK c);have b:(scale (sgE e) g).length=nC:=by rw[zfH,d]
 unfold yVC at h;generalize hso:yJw nC (scale (sgE e) g) rows B=o at h;unfold yJw at hso;cases o with
 | spent n=>cases h
 | none cols n=>cases h
 | falls cols j n=>injection h with h;grind[Nat.le_trans,mw0]
 | best cols n =>
  injection h with h;subst h;have i:=yLR G b rfl hso;exact zDI (fun q a=>Zc (G.sc q a) G.hS) (fun q a=>Zc (i q a) G.sb) (by rw[b];have:=hg.hc;omega)
theorem yZT(hg:GoodS S nC m g rows)(c:g.length=nC)(d:rows.length=m){lo hi:Option Rat}(h:yJF nC g rows B=.ends lo hi):mw (lo.getD 0)≤8000002000∧mw (hi.getD 0)≤8000002000:=by
 have f:=fun q=>yZS (B:=B) (e:=0) (q:=q) (by decide) hg c d
 have i:=fun q=>yZS (B:=B) (e:=1) (q:=q) (by decide) hg c d
 unfold yJF at h;generalize yVC nC g rows B 0=a at *
 generalize yVC nC g rows B 1=b at *
 cases a with
 | spent=>cases h
 | none=>cases h
 | val p =>
  cases b with
  | spent=>cases h
  | none=>cases h
  | val q =>
   injection h with h1 h2;subst h1 h2;refine⟨f _ rfl,?_⟩;have:=i q rfl;cases q with
   | none=>exact this
   | some q=>grind[zhY]
structure Du22 (nC m:Nat) (cost:List Rat) (rows:List PRow) (X Y:List Rat):Prop where
  sx:Sm X
  sy:Sm Y
  lx:X.length=nC
  ly:Y.length=m
  fit:znD cost rows X=true
  bnd:yep nC cost rows Y=true
  val:sb Y rows=dot cost X
  s2:∀k cols nn,zSA (nC+cnt rows m) m (zc3 rows) (zg8 rows) (zjD cost rows) 4000=.best cols nn→GoodS 61 (yLD rows).length (nC+1) (yJH (yLD rows) k) (yJL (yLD rows) rows cost++[yJI (yLD rows) rows (dot cost (yJA nC rows cols))])
  range:∀k,k<m→∃lo hi:Option Rat,yWU nC cost rows k 4000=.range (.ends lo hi)∧mw (lo.getD 0)≤8000002000∧mw (hi.getD 0)≤8000002000∧∀y,yep nC cost rows y=true→sb y rows=dot cost X→yJO lo.isSome hi.isSome (lo.getD 0) (hi.getD 0) (el y k)=true
theorem yZR(hg:Good1 nC m cost rows)(a:cost.length=nC)(E:rows.length=m)(t:oO (sol nC m cost rows)=1) :
  Du22 nC m cost rows (oX nC m rows (sol nC m cost rows)) (oY nC m cost rows (sol nC m cost rows)):=by
 subst E;have u:=hg.hr;have L:=zVF _ u;have i:Rows nC rows:=fun p d=>⟨(hg.rw_ p d).1,fun q b=>Zc ((hg.rw_ p d).2.1 q b) (by decide),Zc (hg.rw_ p d).2.2 (by decide)⟩
 have A:Am.Ends rows.length (nC+cnt rows rows.length) (zc3 rows) (zg8 rows) (zjD cost rows) (sol nC rows.length cost rows):=(yxd hg.toS hg.few a rfl hg.few).1;have hS:=z6W hg.toS hg.few a rfl;have x:zSA (nC+cnt rows rows.length) rows.length (zc3 rows) (zg8 rows) (zjD cost rows) 4000=sol nC rows.length cost rows:=rfl;generalize sol nC rows.length cost rows=o at *
 cases A with
 | none h f s v=>exact absurd t (show ¬(2:Int)=1 by decide)
 | falls h s=>exact absurd t (show ¬(3:Int)=1 by decide)
 | @best cols n h s =>
  have c:mw (dot cost (yJA nC rows cols))≤61:=Zc (yBH hg.toS a rfl h.1) (yZH _ u);rcases hS.shows with ⟨_,⟨sg,lx,D,j,l⟩,_⟩ | ⟨e,_⟩ | ⟨e,_⟩
  ·have B:=yw3 i a rfl sg j;have C:yep nC cost rows (oY nC rows.length cost rows (.best cols n))=true:=by unfold yep;rw[Zs sg.ly,B];rfl
   refine⟨fun q b=>Zc (hS.zx q b) (by omega),fun q b=>Zc (hS.zy q b) (by omega),lx,sg.ly,D,C,l.symm,fun k K nn e=>?_,fun k hk=>?_⟩
   ·rw[x]at e;injection e with e1;subst e1;exact yZy hg rfl c k
   ·have F:yWU nC cost rows k 4000=.range (yJF (yLD rows).length (yJH (yLD rows) k) (yJL (yLD rows) rows cost++[yJI (yLD rows) rows (dot cost (yJA nC rows cols))]) 4000):=by
     unfold yWU yJw;rw[x];rfl
    have G:=yZy hg rfl c k;obtain⟨lo,hi,e,_,_⟩:=yZB hg a rfl c sg j l.symm hk;rw[F];have r:=yZT G (by simp[yJH]) (by rw[Zj,yKO,a];rfl) e;refine⟨lo,hi,by rw[e],r.1,r.2,fun y H I=>?_⟩;obtain⟨ys,J⟩:=yZL i a H;obtain⟨O,N,g,h1,z⟩:=yZB hg a rfl c ys J I hk;rw[e]at g;injection g with e1 e2;subst e1 e2;exact yZM h1 z
  ·exact absurd e (show ¬(1:Int)=2 by decide)
  omega
theorem y0i(hg:GoodS S nC rows.length cost rows)(b:cost.length=nC)(B a:Nat) :
  yJw nC cost rows B=yJw nC cost rows a∨(∃n,yJw nC cost rows B=.spent n)∨∃n,yJw nC cost rows a=.spent n:=by
 have i:=zVA hg.sh b rfl rfl;have j:=zVz hg.sh b rfl rfl;have hc:(zjD cost rows).length=nC+cnt rows rows.length:=by unfold zjD;rw[Zj,Zr,b]
 obtain⟨_,_,c⟩:=zUc (B:=2*binom (nC+cnt rows rows.length+rows.length) rows.length+rows.length) i j hc (Za _);obtain⟨d,e⟩:=c B;obtain⟨f,g⟩:=c a;unfold yJw;rcases ZV B (zSA (nC+cnt rows rows.length) rows.length (zc3 rows) (zg8 rows) (zjD cost rows) (2*binom (nC+cnt rows rows.length+rows.length) rows.length+rows.length)).pivots with h | h
 ·exact .inr (.inl (e h))
 ·rcases ZV a (zSA (nC+cnt rows rows.length) rows.length (zc3 rows) (zg8 rows) (zjD cost rows) (2*binom (nC+cnt rows rows.length+rows.length) rows.length+rows.length)).pivots with h' | h'
  ·exact .inr (.inr (g h'))
  ·exact .inl ((d h).trans (f h').symm)
theorem y0k(b:e<2)(hg:GoodS S nC rows.length g rows)(c:g.length=nC)(B a:Nat) :
  yVC nC g rows B e=yVC nC g rows a e∨yVC nC g rows B e=.spent∨yVC nC g rows a e=.spent:=by
 unfold yVC;rcases y0i (hg.sg (ySK b)) (by rw[zfH,c]) B a with h | ⟨n,h⟩ | ⟨n,h⟩
 ·exact .inl (by rw[h])
 ·exact .inr (.inl (by rw[h];rfl))
 ·exact .inr (.inr (by rw[h];rfl))
theorem y0p{c:Nat}(hg:GoodS S nC rows.length g rows)(d:g.length=nC){lo hi:Option Rat}(h:yJF nC g rows c=.ends lo hi) :
  yJF nC g rows B=.ends lo hi∨∃k,yJF nC g rows B=.spent k:=by
 have f:=y0k (e:=0) (by decide) hg d B c;have i:=y0k (e:=1) (by decide) hg d B c;unfold yJF at *
 generalize yVC nC g rows B 0=a at *
 generalize yVC nC g rows B 1=b at *
 generalize yVC nC g rows c 0=a' at *
 generalize yVC nC g rows c 1=b' at *
 rcases f with rfl | rfl | rfl
 ·cases a with
  | spent=>cases h
  | none=>cases h
  | val p =>
   rcases i with rfl | rfl | rfl
   ·exact .inl h
   ·exact .inr ⟨_,rfl⟩
   ·cases h
 ·exact .inr ⟨_,rfl⟩
 ·cases h
theorem y0u(D:Du22 nC m cost rows X Y)(hg:Good1 nC m cost rows)(a:cost.length=nC)(c:rows.length=m){lo hi:Option Rat}(h:yWU nC cost rows k 4000=.range (.ends lo hi))(B:Nat) :
  yWU nC cost rows k B=.spent∨(∃e,yWU nC cost rows k B=.range (.spent e))∨yWU nC cost rows k B=.range (.ends lo hi):=by
 subst c;unfold yWU at *
 rcases y0i hg.toS a B 4000 with e | ⟨n,e⟩ | ⟨n,e⟩
 ·rw[e];generalize hs:yJw nC cost rows 4000=o at *
  cases o with
  | spent n=>cases h
  | none cols n=>cases h
  | falls cols j n=>cases h
  | best cols n =>
   injection h with h;have G:=D.s2 k cols n hs;have b:(yJL (yLD rows) rows cost++[yJI (yLD rows) rows (dot cost (yJA nC rows cols))]).length=nC+1:=by rw[Zj,yKO,a];rfl
   rw[←b]at G;rcases y0p (B:=B) G (by simp[yJH]) h with h1 | ⟨e1,h1⟩
   ·exact .inr (.inr (congrArg RhsO.range h1))
   ·exact .inr (.inl ⟨e1,congrArg RhsO.range h1⟩)
 ·exact .inl (by rw[e];rfl)
 ·rw[e]at h;cases h
theorem y0v(D:Du22 nC m cost rows X Y)(hg:Good1 nC m cost rows)(c:cost.length=nC)(d:rows.length=m){r:RangeO}(h:yWU nC cost rows k 4000=.range r)(B:Nat) :
  ∀cols nn,zSA (nC+cnt rows m) m (zc3 rows) (zg8 rows) (zjD cost rows) B=.best cols nn→GoodS 61 (yLD rows).length (nC+1) (yJH (yLD rows) k) (yJL (yLD rows) rows cost++[yJI (yLD rows) rows (dot cost (yJA nC rows cols))]):=by
 subst d;intro cols nn b;have a:yJw nC cost rows B=.best cols nn:=b;rcases y0i hg.toS c B 4000 with e | ⟨n,e⟩ | ⟨n,e⟩
 ·exact D.s2 k cols nn (show yJw nC cost rows 4000=.best cols nn by rw[←e];exact a)
 ·rw[a]at e;cases e
 ·unfold yWU at h;rw[e]at h;cases h
theorem y0q(hg:Good1 nC m cost rows)(b:cost.length=nC)(c:rows.length=m)(d:oO (sol nC m cost rows)≠1)(k:Nat):yWU nC cost rows k 4000=.none:=by
 subst c;have a:=(yxd hg.toS hg.few b rfl hg.few).1;have e:yJw nC cost rows 4000=sol nC rows.length cost rows:=rfl;unfold yWU;rw[e];unfold sol at *
 generalize zSA (nC+cnt rows rows.length) rows.length (zc3 rows) (zg8 rows) (zjD cost rows) 4000=o at *
 cases a with
 | none h f s v=>rfl
 | falls h s=>rfl
 | best h s=>exact absurd rfl d
theorem y0t{x:List Rat}(hg:Good1 nC m cost rows)(c:cost.length=nC)(f:rows.length=m)(j:Nat)(e:Nat):yOd nC cost rows x j 4000≠.spent e:=by
 subst f;have one:∀t,yVC ((yKS rows x).length+2) (yJG (yKS rows x)) (yJK (yKS rows x) rows cost x j) 4000 t≠.spent:=fun t h=>by
  have d:(scale (sgE t) (yJG (yKS rows x))).length=(yKS rows x).length+2:=by rw[zfH];simp[yJG,rats]
  have F:=yZJ (x:=x) hg c rfl j d rfl;unfold yVC yJw at h;rw[show(yJK (yKS rows x) rows cost x j).length=nC by rw[yLT,c]]at h;generalize zSA ((yKS rows x).length+2+cnt (yJK (yKS rows x) rows cost x j) nC) nC (zc3 (yJK (yKS rows x) rows cost x j)) (zg8 (yJK (yKS rows x) rows cost x j)) (zjD (scale (sgE t) (yJG (yKS rows x))) (yJK (yKS rows x) rows cost x j)) 4000=o at *
  cases F<;>cases h
 unfold yOd yJF;have h0:=one 0;have h1:=one 1;generalize yVC ((yKS rows x).length+2) (yJG (yKS rows x)) (yJK (yKS rows x) rows cost x j) 4000 0=a at *
 generalize yVC ((yKS rows x).length+2) (yJG (yKS rows x)) (yJK (yKS rows x) rows cost x j) 4000 1=b at *
 cases a with
 | spent=>exact absurd rfl h0
 | none=>intro h;cases h
 | val p =>
  cases b with
  | spent=>exact absurd rfl h1
  | none=>intro h;cases h
  | val q=>intro h;cases h
