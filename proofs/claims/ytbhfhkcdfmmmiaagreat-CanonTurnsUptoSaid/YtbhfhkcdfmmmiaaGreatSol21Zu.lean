/- Contracts and lemmas: Sol21 Bsp Told Tnp. Conditions: as each says. -/
import Derived.Test.YtbhfhkcdfmmmiaaGreatCaSZu
import Derived.Test.YtbhfhkcdfmmmiaaGreatCaFZu
set_option linter.all false
set_option maxHeartbeats 1000000
set_option maxRecDepth 100000
namespace Go.Proofs.YtbhfhkcdfmmmiaaGreat
open Go.RowKit Am
open Ca (solve)
variable {z:Int}{rows:List PRow}{cost:List Rat}{N S k m nC t:Nat}{q:Rat}
def cO:COut→Int
  | .spent _=>0
  | .none _=>2
  | .best .. => 1
  | .falls _=>3
section
variable (nC m:Nat) (cost:List Rat) (rows:List PRow)
def cX:COut→List Rat
  | .best _ G _=>ytf nC (nC+cnt rows m+m) (zt0 (zc3 rows) (zg8 rows)) (zwh (zg8 rows)) G
  | _=>[]
def cV:COut→Rat
  | .best _ G _=>dot cost (ytf nC (nC+cnt rows m+m) (zt0 (zc3 rows) (zg8 rows)) (zwh (zg8 rows)) G)
  | _=>0
def cI:COut→List Nat
  | .best cols _ _=>ytJ (nC+cnt rows m) cols
  | _=>[]
def ys6:COut:=ys3 (nC+cnt rows m) m nC (zc3 rows) (zg8 rows) (zjD cost rows) 4000
end
theorem ytx:∀a,a≤9→∀b,b≤4→binom (a+b) b+b+bmax a b≤4000:=by decide +kernel
section
variable {nC m:Nat} {cost:List Rat} {rows:List PRow} (hg:Good1 nC m cost rows) (hlc:cost.length=nC) (hlr:rows.length=m)
include hg hlc hlr
theorem ys8:CEnds m (nC+cnt rows m) nC (zc3 rows) (zg8 rows) (zjD cost rows) (ys6 nC m cost rows)∧(ys6 nC m cost rows).pivots≤4000∧∀B,((ys6 nC m cost rows).pivots≤B→ys3 (nC+cnt rows m) m nC (zc3 rows) (zg8 rows) (zjD cost rows) B=ys6 nC m cost rows)∧(B<(ys6 nC m cost rows).pivots→ys3 (nC+cnt rows m) m nC (zc3 rows) (zg8 rows) (zjD cost rows) B=.spent B):=by
 have b:=zVA hg.toS.sh hlc hlr rfl;have c:=zVz hg.toS.sh hlc hlr rfl;have hc:(zjD cost rows).length=nC+cnt rows m:=by unfold zjD;rw[List.length_append,List.length_replicate,hlc,hlr]
 have f:=ytx (nC+cnt rows m) (by have:=hg.hc;have:=hg.hr;have:=zgO rows m;omega) m hg.hr;obtain⟨o,h1,d,a⟩:=yty (own:=nC) b c hc (by omega);have e:ys6 nC m cost rows=o:=(a 4000).1 (by omega);rw[e];exact⟨h1,by omega,a⟩
theorem ytu:(∀q∈cX nC m rows (ys6 nC m cost rows),mw q≤sB m 1 1)∧4*(mw (cV nC m cost rows (ys6 nC m cost rows))+mw (cV nC m cost rows (ys6 nC m cost rows)))+8≤LIM:=by
 have c:=(ys8 hg hlc hlr).1;have zA:=zXc (b:=zg8 rows) (Nat.le_refl 1) (z6N hg.toS hlr);have zb:=zXd (z6O hg.toS);have g:(zwh (zg8 rows)).length=m:=by rw[zUh,zVz hg.toS.sh hlc hlr rfl]
 generalize ys6 nC m cost rows=o at c ⊢;have d:4*(mw 0+mw 0)+8≤LIM:=by rw[zaP];decide +kernel
 cases c with
 | none h f s v=>exact⟨fun q a=>(by cases a),d⟩
 | falls h s=>exact⟨fun q a=>(by cases a),d⟩
 | best h s x e =>
  rename_i G n k L
  have P:∀q∈ytf nC (nC+cnt rows m+m) (zt0 (zc3 rows) (zg8 rows)) (zwh (zg8 rows)) G,mw q≤sB m 1 1:=fun q a=>z0l x.last.1 (x.last.1.vals_ok _).2 (z0n x.last.1 (zLu x.last.1 zA) g zb) (zma _ _ _) q (List.mem_of_mem_take a)
  refine⟨P,?_⟩;have i:=zVF m hg.hr;have:=zDI (xs:=cost) (ys:=ytf nC (nC+cnt rows m+m) (zt0 (zc3 rows) (zg8 rows)) (zwh (zg8 rows)) G) (fun q a=>Nat.le_trans (hg.sc q a) (by decide)) (fun q a=>Nat.le_trans (P q a) (by omega)) (by have:=hg.hc;omega);show 4*(mw (dot cost _)+mw (dot cost _))+8≤LIM
  rw[zaP];omega
end
def yu6 (w:World) (o:Int) (v:Rat) (X:List Rat) (I:List Nat) (n:Nat) (e:Ending) (w':World):Prop :=
  ∃(g:Bool) (A:OA) (m c:Nat) (D:OA) (md cd:Nat) (P:OA) (nP cP:Nat) (Ba:OA) (na ca:Nat),e=.returned (.tuple #[.agg #[.int .i64 o,g,(A,m,c),(D,md,cd),(P,nP,cP)],(n:Int),(Ba,na,ca),.nilIface])∧RatS w' g (A,m,c) (D,md,cd) v∧VecS w' 0 (P,nP,cP) X∧IntsS w' 0 (Ba,na,ca) I∧Below w.heap.size w w'
theorem ytb.a{w:World}{B:Nat}{o:COut}{e:Ending}{w':World}(h:ytb w nC (nC+cnt rows m+m) (zt0 (zc3 rows) (zg8 rows)) (zwh (zg8 rows)) cost B (ytJ (nC+cnt rows m)) o e w')(q:∀n,o≠.spent n):yu6 w (cO o) (cV nC m cost rows o) (cX nC m rows o) (cI nC m rows o) o.pivots e w':=by
 obtain⟨b,h⟩:=h;cases o with
 | spent n=>exact(q n rfl).elim
 | none n=>exact⟨false,none,0,0,none,0,0,none,0,0,none,0,0,h,RatS.zero _,.nil _ _,IntsS.nil _ _,b⟩
 | falls n=>exact⟨false,none,0,0,none,0,0,none,0,0,none,0,0,h,RatS.zero _,.nil _ _,IntsS.nil _ _,b⟩
 | best cols G n =>
  obtain⟨g,A,s,c,D,r,j,P,f,d,t,i,k,hr,p,l⟩:=h;exact⟨g,A,s,c,D,r,j,P,nC,f,d,t,i,k,hr,p.base (Nat.zero_le _),l.base (Nat.zero_le _),b⟩
namespace Ca
section
variable (C:OA) (nC cC:Nat) (R:OA) (m cR:Nat) (cost:List Rat) (rows:List PRow) (w:World) (hc:VecS w 0 (C,nC,cC) cost) (hr:RowsS w 0 (R,m,cR) rows) (hg:Good1 nC m cost rows)
include hc hr hg
end
end Ca
open Ca (yuw)
theorem yvx{n:Nat}(h:n≤N)(cols:List Nat)(xs:List Rat):(zh1 N cols xs).take n=(List.range n).map fun j=>pt cols.length (fun k=>cols.getD k 0) (el xs) j:=by
 unfold zh1;rw[←List.map_take,List.take_range,Nat.min_eq_left h]
structure FromO (nC m N:Nat) (cost:List Rat) (rows:List PRow) (I:List Nat) (X:List Rat) (n:Nat):Prop where
  basis:Basis m N (zc3 rows) I
  right:zdi (zaC N (zc3 rows) I (zjD cost rows)) (List.replicate N true)=none
  dual:∀f,pivs (zbE N (zc3 rows) (zg8 rows) (zjD cost rows) (List.replicate N true)) f I=⟨I,none,0,false⟩
  frm:∃G k,yts N nC (zc3 rows) (zg8 rows) (zjD cost rows) 4000 I=.best I G k∧k≤n∧ytf nC N (zc3 rows) (zg8 rows) G=X
section
variable {nC m:Nat} {cost:List Rat} {rows:List PRow} (hg:Good1 nC m cost rows) (hlc:cost.length=nC) (hlr:rows.length=m)
include hg hlc hlr
end
namespace Ca
end Ca
theorem yxb{A:List (List Rat)}{b:List Rat}{G:List Nat}(c:G.length=m)(hN:nC≤N){X:Nat→Rat}(a:∀j,X j=pt m (fun k=>G.getD k 0) (el (za5 A b G)) j):ytf nC N A b G=(List.range nC).map X:=by
 unfold ytf;rw[yvx hN,c];exact List.map_congr_left fun j _=>(a j).symm
theorem yxA{m':Nat}{g:List PRow}{o o':COut}(h:Told nC m cost rows o)(i:Told nC m' cost g o')(e:∀x,ywM nC rows x↔ywM nC g x) :
  cO o=cO o'∧cX nC m rows o=cX nC m' g o'∧cV nC m cost rows o=cV nC m' cost g o':=by
 cases h with
 | none h =>
  cases i with
  | none=>exact⟨rfl,rfl,rfl⟩
  | falls h2=>obtain⟨x,f,_⟩:=h2 0;exact absurd ((e x).2 f) (h x)
  | best X f=>exact absurd ((e X).2 f) (h X)
 | falls h =>
  cases i with
  | none h2=>obtain⟨x,f,_⟩:=h 0;exact absurd ((e x).1 f) (h2 x)
  | falls=>exact⟨rfl,rfl,rfl⟩
  | best X f _ _ hb =>
   obtain⟨x,f,lt⟩:=h (ywA nC cost X);have:=(hb x ((e x).1 f)).1;grind
 | best X f he hl hb =>
  cases i with
  | none h2=>exact absurd ((e X).1 f) (h2 X)
  | falls h2 =>
   obtain⟨x,f,lt⟩:=h2 (ywA nC cost X);have:=(hb x ((e x).2 f)).1;grind
  | best Y hy he' hl' hb' =>
   have a:=hb Y ((e Y).2 hy);have b:=hb' X ((e X).1 f);have c:ywA nC cost X=ywA nC cost Y:=by have:=a.1;have:=b.1;grind
   have d:=ywT (a.2 c) (b.2 c.symm);have w:(List.range nC).map X=(List.range nC).map Y:=List.map_congr_left fun j hj=>d j (List.mem_range.1 hj)
   unfold cV cX
   dsimp only
   rw[yxb hl (by omega) he,yxb hl' (by omega) he',w];exact⟨rfl,rfl,rfl⟩
theorem yxl{a:List PRow}(h:∀i,i<a.length→∃k t,k<rows.length∧0<t∧(a.getD i default).kind=(rows.getD k default).kind∧(a.getD i default).rhs=t*(rows.getD k default).rhs∧∀j,j<nC→el (a.getD i default).coef j=t*el (rows.getD k default).coef j){x:Nat→Rat}(c:ywM nC rows x):ywM nC a x:=by
 refine⟨c.1,fun i n=>?_⟩;obtain⟨k,t,hk,b,d,e,f⟩:=h i n;have s:ywR nC (a.getD i default) x=t*ywR nC (rows.getD k default) x:=by
  unfold ywR;rw[←za7];exact zaj fun j hj=>by rw[f j hj];grind
 obtain⟨h1,g,l⟩:=c.2 k hk;unfold ywH;rw[d,e,s];exact⟨fun q=>Rat.mul_le_mul_of_nonneg_left (h1 q) (Rat.le_of_lt b),fun q=>Rat.mul_le_mul_of_nonneg_left (g q) (Rat.le_of_lt b),fun q=>by rw[l q]⟩
def yw0 (rows:List PRow) (t:Nat):List PRow:=(List.range rows.length).map fun k=>rows.getD ((k+t)%rows.length) default
def yxq (q:Rat) (p:PRow):PRow:=⟨scale q p.coef,p.kind,q*p.rhs⟩
def ywV (rows:List PRow) (t k:Nat) (q:Rat):List PRow:=yw0 rows t++[yxq q ((yw0 rows t).getD k default)]
theorem ywW(rows:List PRow)(t:Nat):(yw0 rows t).length=rows.length:=by simp[yw0]
theorem yw2(rows:List PRow)(t k:Nat)(q:Rat):(ywV rows t k q).length=rows.length+1:=by simp[ywV,ywW]
theorem yw1(h:k<rows.length):(yw0 rows t).getD k default=rows.getD ((k+t)%rows.length) default:=by
 unfold yw0;rw[zbU _ _ (by simpa using h) 0,zcA h]
theorem ywZ(h:k<rows.length):rows.getD k default∈rows:=by
 rw[List.getD_eq_getElem?_getD,List.getElem?_eq_getElem h];exact List.getElem_mem h
theorem yxB(h:k<rows.length):(yw0 rows t).getD k default∈rows:=by
 rw[yw1 h];exact ywZ (Nat.mod_lt _ (by omega))
theorem yw7{i:Nat}(h:i<rows.length):(ywV rows t k q).getD i default=(yw0 rows t).getD i default:=by
 unfold ywV;rw[List.getD_eq_getElem?_getD,List.getElem?_append_left (by rw[ywW];exact h),List.getD_eq_getElem?_getD]
theorem yxr:(ywV rows t k q).getD rows.length default=yxq q ((yw0 rows t).getD k default):=by
 unfold ywV;rw[List.getD_eq_getElem?_getD,List.getElem?_append_right (by rw[ywW];exact Nat.le_refl _),ywW,Nat.sub_self];rfl
theorem yxx(q:Rat)(p:PRow)(j:Nat):el (yxq q p).coef j=q*el p.coef j:=by
 show el (scale q p.coef) j=_
 unfold scale el;rw[List.getD_eq_getElem?_getD,List.getElem?_map,List.getD_eq_getElem?_getD];cases p.coef[j]? with
 | none=>show(0:Rat)=q*0;grind
 | some a=>rfl
theorem yxs(hk:k<rows.length)(d:0<q)(x:Nat→Rat):ywM nC rows x↔ywM nC (ywV rows t k q) x:=by
 have one:∀a:Rat,a=1*a:=fun a=>by grind
 have b:0<rows.length:=by omega
 constructor
 ·refine yxl fun i c=>?_
  rw[yw2]at c;by_cases e:i=rows.length
  ·rw[e,yxr,yw1 hk];exact⟨(k+t)%rows.length,q,Nat.mod_lt _ b,d,rfl,rfl,fun j _=>yxx _ _ _⟩
  ·rw[yw7 (by omega),yw1 (by omega)];exact⟨(i+t)%rows.length,1,Nat.mod_lt _ b,by decide,rfl,one _,fun j _=>one _⟩
 ·refine yxl fun i c=>?_
  refine⟨(i+(rows.length-t%rows.length))%rows.length,1,by rw[yw2];have:=Nat.mod_lt (i+(rows.length-t%rows.length)) b;omega,by decide,?_⟩;have hm:=Nat.mod_lt t b;rw[yw7 (Nat.mod_lt _ b),yw1 (Nat.mod_lt _ b)];have e:((i+(rows.length-t%rows.length))%rows.length+t)%rows.length=i:=by
   rw[Nat.mod_add_mod];have:i+(rows.length-t%rows.length)+t=i+rows.length*(1+t/rows.length):=by
    have h1:=Nat.div_add_mod t rows.length;have f:rows.length*(1+t/rows.length)=rows.length+rows.length*(t/rows.length):=by rw[Nat.mul_add,Nat.mul_one]
    omega
   rw[this,Nat.add_mul_mod_self_left,Nat.mod_eq_of_lt c]
  rw[e];exact⟨rfl,one _,fun j _=>one _⟩
def yxE (rows:List PRow) (t k:Nat):List PRow:=(yw0 rows t).take k++rows.drop k
theorem yxO(rows:List PRow)(t:Nat):yxE rows t 0=rows:=by simp[yxE]
theorem yxR(rows:List PRow)(t:Nat):yxE rows t rows.length=yw0 rows t:=by
 unfold yxE;rw[List.drop_length,List.append_nil];exact List.take_of_length_le (by rw[ywW];exact Nat.le_refl _)
theorem yxS(h:k≤rows.length):(yxE rows t k).length=rows.length:=by
 unfold yxE;rw[List.length_append,List.length_take,List.length_drop,ywW];omega
theorem yxN(h:k<rows.length){p:PRow}(b:rows[(k+t)%rows.length]? = some p):(yxE rows t k).set k p=yxE rows t (k+1):=by
 have e:(yw0 rows t)[k]? = some p:=by
  unfold yw0;rw[List.getElem?_map,List.getElem?_range h];show some (rows.getD _ default)=_
  rw[List.getD_eq_getElem?_getD,b];rfl
 have a:((yw0 rows t).take k).length=k:=by rw[List.length_take,ywW];omega
 unfold yxE;rw[List.take_add_one,e,List.set_append_right _ _ (by omega),a,Nat.sub_self,List.drop_eq_getElem_cons h,List.set_cons_zero,List.append_assoc];rfl
theorem yxM:∀m,m≤5→zor m 2≤LIM∧sB m 2 2≤1000000:=by unfold LIM;decide +kernel
theorem yxD:∀a,a≤10→∀b,b≤5→binom (a+b) b+b+bmax a b≤4000:=by decide +kernel
theorem yw8(hg:Good1 nC m cost rows)(hlr:rows.length=m)(hk:k<m)(n:1≤z)(o:z≤9):GoodS 2 nC (m+1) cost (ywV rows t k ((z:Int):Rat)):=by
 have hr:=hg.hr;have hc:=hg.hc;have l:mw ((z:Int):Rat)≤1:=zu9 z ⟨by omega,by omega⟩;have f:∀p∈ywV rows t k ((z:Int):Rat),p∈rows∨∃p0∈rows,p=yxq ((z:Int):Rat) p0:=fun p d=>by
  rcases List.mem_append.1 d with h | h
  ·obtain⟨i,j,rfl⟩:=List.mem_map.1 h;exact .inl (ywZ (Nat.mod_lt _ (by omega)))
  ·exact .inr ⟨_,yxB (by omega),List.mem_singleton.1 h⟩
 refine⟨fun q e=>Nat.le_trans (hg.sc q e) (by decide),fun p d=>?_,fun p d=>?_,by decide,by decide,by omega,by omega,(yxM (m+1) (by omega)).1,Nat.le_trans (yxM (m+1) (by omega)).2 (by decide)⟩
 ·rcases f p d with h | ⟨p0,h,rfl⟩
  ·obtain⟨a,b,c⟩:=hg.rw_ p h;exact⟨a,fun q e=>Nat.le_trans (b q e) (by decide),by omega⟩
  ·obtain⟨a,b,c⟩:=hg.rw_ p0 h;refine⟨by show(scale _ p0.coef).length=nC;rw[zfH];exact a,fun q e=>?_,?_⟩
   ·obtain⟨g,h0,rfl⟩:=List.mem_map.1 e;have:=zdI ((z:Int):Rat) g;have:=b g h0;omega
   ·show mw (_*p0.rhs)≤2
    have:=zdI ((z:Int):Rat) p0.rhs;omega
 ·rcases f p d with h | ⟨p0,h,rfl⟩
  ·exact hg.kd p h
  ·exact hg.kd p0 h
theorem yxV(hg:GoodS S nC m cost rows)(hlr:rows.length=m):Form nC m rows :=
 ⟨hlr,fun k hk=>(hg.rw_ _ (ywZ hk)).1,fun k hk=>by have:=hg.kd _ (ywZ hk);omega⟩
theorem yw6(hg:GoodS S nC m cost rows)(hlc:cost.length=nC)(hlr:rows.length=m)(hc:nC≤5)(hm:m≤5):Told nC m cost rows (ys6 nC m cost rows)∧∀n,ys6 nC m cost rows≠.spent n:=by
 have a:=yxV hg hlr;have c:(zjD cost rows).length=nC+cnt rows m:=by unfold zjD;rw[List.length_append,List.length_replicate,hlc,hlr]
 have f:=yxD (nC+cnt rows m) (by have:=zgO rows m;omega) m hm;obtain⟨o,h1,d,b⟩:=yty (own:=nC) (ywE a) (ywQ a) c (by omega);have e:ys6 nC m cost rows=o:=(b 4000).1 (by omega);rw[e];exact⟨ywS a hlc h1,h1.not⟩
theorem yxC(hg:Good1 nC m cost rows)(hlc:cost.length=nC)(hlr:rows.length=m)(hk:k<m)(a:1≤z)(b:z≤9) :
  cO (ys6 nC (m+1) cost (ywV rows t k ((z:Int):Rat)))=cO (ys6 nC m cost rows)∧cX nC (m+1) (ywV rows t k ((z:Int):Rat)) (ys6 nC (m+1) cost (ywV rows t k ((z:Int):Rat)))=cX nC m rows (ys6 nC m cost rows)∧cV nC (m+1) cost (ywV rows t k ((z:Int):Rat)) (ys6 nC (m+1) cost (ywV rows t k ((z:Int):Rat)))=cV nC m cost rows (ys6 nC m cost rows) :=
 yxA (yw6 (yw8 hg hlr hk a b) hlc (by rw[yw2,hlr]) hg.hc (by have:=hg.hr;omega)).1 (yw6 hg.toS hlc hlr hg.hc (by have:=hg.hr;omega)).1 fun x=>(yxs (by omega) (by exact_mod_cast (show(0:Int)<z by omega)) x).symm
namespace Ca
theorem yxW(S:Nat)(C:OA)(nC cC:Nat)(R:OA)(m cR:Nat)(cost:List Rat)(rows:List PRow)(w:World)(hc:VecS w 0 (C,nC,cC) cost)(hr:RowsS w 0 (R,m,cR) rows)(hg:GoodS S nC m cost rows)(b:nC≤5)(hm:m≤5):Calls Tryz.prog 16 #[.agg #[(C,nC,cC),(R,m,cR)],.int .i64 4000] w (yu6 w (cO (ys6 nC m cost rows)) (cV nC m cost rows (ys6 nC m cost rows)) (cX nC m rows (ys6 nC m cost rows)) (cI nC m rows (ys6 nC m cost rows)) (ys6 nC m cost rows).pivots) :=
 (solve S C nC cC R m cR cost rows _ _ 4000 w hc hr hg rfl rfl (by decide)).mono fun _ _ h=>ytb.a h (yw6 hg hc.len.symm hr.len.symm b hm).2
theorem yxX(C:OA)(nC cC:Nat)(R:OA)(m cR:Nat)(cost:List Rat)(rows:List PRow)(t k:Nat)(z:Int)(w:World)(hc:VecS w 0 (C,nC,cC) cost)(hr:RowsS w 0 (R,m+1,cR) (ywV rows t k ((z:Int):Rat)))(hg:Good1 nC m cost rows)(hlr:rows.length=m)(hk:k<m)(a:1≤z)(b:z≤9):Calls Tryz.prog 16 #[.agg #[(C,nC,cC),(R,m+1,cR)],.int .i64 4000] w fun e w'=>∃I n,yu6 w (cO (ys6 nC m cost rows)) (cV nC m cost rows (ys6 nC m cost rows)) (cX nC m rows (ys6 nC m cost rows)) I n e w' :=
 (yxW 2 C nC cC R (m+1) cR cost _ w hc hr (yw8 hg hlr hk a b) hg.hc (by have:=hg.hr;omega)).mono fun e w' h=>by
  obtain⟨c,d,f⟩:=yxC (t:=t) hg hc.len.symm hlr hk a b;rw[c,d,f]at h;exact⟨_,_,h⟩
