/- Contracts and lemmas: Rnp Tbz Elp Elq Fep. Conditions: as each says. -/
import Derived.Test.YtmflbanlgkdgeaaGreatDoorPrSZr
set_option linter.all false
set_option maxRecDepth 100000
namespace Am
section
variable {m N:Nat} {A:List (List Rat)} {b c:List Rat} {may:List Bool}
def worth (m N:Nat) (A:List (List Rat)) (b c:List Rat) (cols:List Nat):Rat:=zai N fun j=>el c j*pt m (fun k=>cols.getD k 0) (el (za5 A b cols)) j
theorem PPiv.cheaper{cols:List Nat}(h:Basis m N A cols)(hc:c.length=N){k j:Nat}(p:PPiv m N A b c may cols k j)(f:zyF m A b cols):worth m N A b c (cols.set k j)≤worth m N A b c cols:=by
 have I:=p.t;have r:=h.swap p.hk p.hj (show el (zav A cols j) k≠0 by grind);have D:=p.feas h f;have P:=h.pri hc;have u:=P.cost (r.dic b).pt_sol;have x:=P.value (h.dic b);have o:=zyA r.lt (el (za5 A b (cols.set k j))) (el (zaC N A cols c));have a:zai m (fun l=>el (zaC N A cols c) ((cols.set k j).getD l 0)*el (za5 A b (cols.set k j)) l)≤zai m (fun _=>0):=zUD fun l i=>by
  have E:=D l i;have G:=p.d;by_cases e:l=k
  ·subst e;have g:(cols.set l j).getD l 0=j:=by rw[List.getD_eq_getElem?_getD,List.getElem?_set_self (by rw[h.len];exact i)];rfl
   rw[g];have:=Rat.mul_nonneg (show 0 ≤ -el (zaC N A cols c) j by grind) E;grind
  ·have g:(cols.set k j).getD l 0=cols.getD l 0:=by rw[List.getD_eq_getElem?_getD,List.getElem?_set_ne (by omega),←List.getD_eq_getElem?_getD]
   rw[g,P.zero l i];grind
 rw[zgd]at a;have y:worth m N A b c (cols.set k j)=_:=u;have z:worth m N A b c cols=_:=x;have C:zai N (fun s=>el (zaC N A cols c) s*pt m (fun n=>(cols.set k j).getD n 0) (fun n=>el (za5 A b (cols.set k j)) n) s)≤0:=by
  have F:=o;have:zai m (fun l=>el (zaC N A cols c) ((cols.set k j).getD l 0)*el (za5 A b (cols.set k j)) l)=_:=o.symm;rw[this]at a;exact a
 rw[y,z];have:=C;grind
structure RunsTo (m N:Nat) (A:List (List Rat)) (b c:List Rat) (may:List Bool) (B:Nat) (cols:List Nat) (r:RunOut):Prop where
  basis:Basis m N A r.cols
  feas:zyF m A b r.cols
  less:worth m N A b c r.cols≤worth m N A b c cols
  n:r.n≤B
  err:r.err=true→r.n=B∧∃j,zdi (zaC N A r.cols c) may=some j
  stop:r.err=false→r.at_=none→zdi (zaC N A r.cols c) may=none
  bad:∀j,r.err=false→r.at_=some j→j<N∧zdi (zaC N A r.cols c) may=some j∧zDG r.cols (za5 A b r.cols) (zav A r.cols j)=none
end
section
variable {m N:Nat} {A:List (List Rat)} {b:List Rat} (hA:Rect m N A) (hb:b.length=m)
structure FeasTo (m N:Nat) (A:List (List Rat)) (b:List Rat) (B:Nat) (r:RunOut) (d:(List Nat × Nat) × Bool):Prop where
  err:r.err=false
  n:r.n≤binom (N+m) m
  basis:Basis m (N+m) (zt0 A b) r.cols
  feas:zyF m (zt0 A b) (zwh b) r.cols
  stop:zBX (N+m) (zt0 A b) (zwh b) (zJG N m) (zKc N m) r.cols=.stop
  own:¬0<zSB N m A b r.cols→d.2=false∧Own m (N+m) N (zt0 A b) (zwh b) d.1.1 m∧d.1.2≤m
include hA hb in
theorem yj6{B:Nat}(k:binom (N+m) m+m≤B):FeasTo m N A b B (pivs (zBX (N+m) (zt0 A b) (zwh b) (zJG N m) (zKc N m)) B (zKa N m)) (zSz N (N+m) (zt0 A b) (B-(pivs (zBX (N+m) (zt0 A b) (zwh b) (zJG N m) (zKc N m)) B (zKa N m)).n) m 0 ((pivs (zBX (N+m) (zt0 A b) (zwh b) (zJG N m) (zKc N m)) B (zKa N m)).cols,0)):=by
 obtain⟨cols,n,hr,f,h1,a,st⟩:=zUF (B:=B) hA hb (by omega);rw[hr];refine⟨rfl,f,h1,a,st,fun g=>?_⟩;have i:=(zTS h1 a hA hb st).1 (by show zSB N m A b cols≤0;simp only at g;grind);obtain⟨j,d⟩:=i.drive (by omega) m (Nat.le_refl _);have hF:zSG N (N+m) (zt0 A b) m 0 (cols,0)=zAd N (N+m) (zt0 A b) cols m:=by
  have:=zTL N (N+m) (zt0 A b) cols m 0;rw[Nat.zero_add]at this;exact this
 have e:=zSC N (N+m) (zt0 A b) (B-n) m 0 (cols,0) (by rw[hF];omega);rw[hF]at e;simp only;rw[e];exact⟨rfl,j,d⟩
end
end Am
namespace Go.Proofs.YtmflbanlgkdgeaaGreatDoor
open Go.RowKit Am
section
variable {W0 w:World} {H q:Nat} {rA:OA} {rc:Nat} {lA:List Value} {bA:OA} {bc_:Nat} {kA:OA} {kc:Nat} {eA:OA} {ec m N S own:Nat} {A:List (List Rat)} {b c:List Rat} {left:List Int}
  {tA:OA} {tc:Nat} {cols:List Nat}
theorem yju(h:zhi W0 w H q rA rc lA bA bc_ kA kc eA ec m N S own A b c left tA tc cols):∀q∈zh1 N cols (za5 A b cols),mw q≤sB m S S:=by
 have a:=h.basis;obtain⟨_,_,_,d⟩:=h;exact z0l a (a.vals_ok _).2 (z0n a d.bas.good.2.2 d.std.blen d.std.zb) (zma _ _ _)
end
end Go.Proofs.YtmflbanlgkdgeaaGreatDoor
namespace Am
def InS (m N:Nat) (A:Nat→Nat→Rat) (v:Nat→Rat):Prop:=∃u:Nat→Rat,∀j,j<N→v j=zai m fun l=>u l*A l j
section
variable {m N:Nat} {A B:Nat→Nat→Rat} {v w:Nat→Rat}
theorem InS.row{i:Nat}(a:i<m):InS m N A (A i):=⟨fun l=>if l=i then 1 else 0,fun j _=>by
 rw[zbI a fun l _ d=>by simp only[if_neg d];grind];simp only[if_pos];grind⟩
theorem InS.add(h:InS m N A v)(a:InS m N A w):InS m N A fun j=>v j+w j:=by
 obtain⟨u,d⟩:=h;obtain⟨x,e⟩:=a;exact⟨fun l=>u l+x l,fun j hj=>by show v j+w j=_;rw[d j hj,e j hj,←zcm];exact zaj fun l _=>by grind⟩
theorem InS.mul(c:Rat)(h:InS m N A v):InS m N A fun j=>c*v j:=by
 obtain⟨u,a⟩:=h;exact⟨fun l=>c*u l,fun j hj=>by show c*v j=_;rw[a j hj,←za7];exact zaj fun l _=>by grind⟩
theorem InS.congr(h:InS m N A v)(e:∀j,j<N→w j=v j):InS m N A w:=by
 obtain⟨u,a⟩:=h;exact⟨u,fun j hj=>by rw[e j hj,a j hj]⟩
theorem InS.trans(hA:∀l,l<m→InS m N B (A l))(h:InS m N A v):InS m N B v:=by
 obtain⟨u,e⟩:=h;obtain⟨W,d⟩:∃W:Nat→Nat→Rat,∀l,l<m→∀j,j<N→A l j=zai m fun t=>W l t*B t j :=
  ⟨fun l=>if a:l<m then Classical.choose (hA l a)else fun _=>0,fun l a j hj=>by simp only[a,dif_pos];exact Classical.choose_spec (hA l a) j hj⟩
 refine⟨fun t=>zai m fun l=>u l*W l t,fun j hj=>?_⟩;rw[e j hj,zaj fun l a=>by rw[d l a j hj,←za7],zbq];exact zaj fun t _=>by rw[←zb6];exact zaj fun l _=>by grind
theorem yru{R1 R2:Nat→Nat→Rat}{K1 K2:Nat→Bool}{L1:Nat→Nat}{W g:Nat→Nat→Rat}
  (o:∀i,i<m→∀j,j<N→R1 i j=zai m fun t=>W i t*R2 t j) (p:∀t,t<m→∀j,j<N→R2 t j=zai m fun i=>g t i*R1 i j)
  (u:∀t,t<m→K2 t=false→∀j,j<N→R2 t j=0) (n:∀i,i<m→K1 i=true→L1 i<N∧∀i',i'<m→R1 i' (L1 i)=if i'=i then 1 else 0) :
  zai m (fun i=>if K1 i then 1 else 0)=zai m fun i=>zai m fun t=>if K1 i&&K2 t then W i t*g t i else 0:=by
 refine zaj fun i a=>?_
 cases hk:K1 i
 ·exact(zcn fun t _=>by simp).symm
 ·obtain⟨d,f⟩:=n i a hk;have e:=o i a (L1 i) d;rw[f i a,if_pos rfl]at e;simp only[if_true,Bool.true_and];rw[e];refine zaj fun t k=>?_
  cases hk2:K2 t
  ·rw[u t k hk2 _ d];simp
  ·rw[p t k _ d,zbI a fun l r s=>by rw[f l r,if_neg s];grind,f i a,if_pos rfl];simp
theorem yrE{R1 R2:Nat→Nat→Rat}{K1 K2:Nat→Bool}{L1 L2:Nat→Nat}(n:∀i,i<m→InS m N R2 (R1 i))(o:∀t,t<m→InS m N R1 (R2 t))
  (p:∀i,i<m→K1 i=false→∀j,j<N→R1 i j=0) (r:∀t,t<m→K2 t=false→∀j,j<N→R2 t j=0)
  (g:∀i,i<m→K1 i=true→L1 i<N∧∀i',i'<m→R1 i' (L1 i)=if i'=i then 1 else 0) (k:∀i,i<m→K2 i=true→L2 i<N∧∀i',i'<m→R2 i' (L2 i)=if i'=i then 1 else 0) :
  zai m (fun i=>if K1 i then (1:Rat)else 0)=zai m (fun t=>if K2 t then 1 else 0):=by
 have d:∀ {P Q:Nat→Nat→Rat},(∀i,i<m→InS m N Q (P i))→∃W:Nat→Nat→Rat,∀l,l<m→∀j,j<N→P l j=zai m fun t=>W l t*Q t j:=fun {P Q} hA =>
  ⟨fun l=>if a:l<m then Classical.choose (hA l a)else fun _=>0,fun l a j hj=>by simp only[a,dif_pos];exact Classical.choose_spec (hA l a) j hj⟩
 obtain⟨W,e⟩:=d n;obtain⟨s,f⟩:=d o;rw[yru e f r g,yru f e p k,zbq];exact zaj fun t _=>zaj fun i _=>by rw[Bool.and_comm];split<;>grind
end
def yrg (L:List (List Rat)) (c:Nat):Nat→Nat→Option Nat
  | 0,_=>none
  | f+1,r=>if en L r c=0 then yrg L c f (r+1)else some r
theorem yrn(L:List (List Rat))(c:Nat):∀f r,match yrg L c f r with
  | none=>∀i,r≤i→i<r+f→en L i c=0
  | some k=>r≤k∧k<r+f∧en L k c≠0
 | 0,r=>by simp only[yrg];intro i h1 d;omega
 | f+1,r=>by
  unfold yrg;have a:=yrn L c f (r+1);by_cases h:en L r c=0
  ·rw[if_pos h];cases e:yrg L c f (r+1)with
   | none =>
    rw[e]at a;intro i h1 d;by_cases g:i=r
    ·rw[g];exact h
    ·exact a i (by omega) (by omega)
   | some k=>rw[e]at a;exact⟨by have:=a.1;omega,by have:=a.2.1;omega,a.2.2⟩
  ·rw[if_neg h];exact⟨Nat.le_refl _,by omega,h⟩
def yre (L:List (List Rat)) (a k:Nat):List (List Rat):=(L.set a (L.getD k [])).set k (L.getD a [])
def yrd (L:List (List Rat)) (a c:Nat):Nat→List (List Rat)
  | 0=>L
  | r+1=>if r=a∨en (yrd L a c r) r c=0 then yrd L a c r else (yrd L a c r).set r (zly ((yrd L a c r).getD r []) (-en (yrd L a c r) r c) ((yrd L a c r).getD a []))
def yrc (L:List (List Rat)) (a c:Nat):List (List Rat):=L.set a ((L.getD a []).map fun x=>(en L a c)⁻¹*x)
def yro (L:List (List Rat)) (ls:List Nat) (c:Nat):List (List Rat) × List Nat :=
  match yrg L c (L.length-ls.length) ls.length with
  | none=>(L,ls)
  | some k=>(yrd (yrc (yre L ls.length k) ls.length c) ls.length c L.length,ls++[c])
def yrf (A:List (List Rat)):Nat→List (List Rat) × List Nat
  | 0=>(A,[])
  | c+1=>yro (yrf A c).1 (yrf A c).2 c
theorem yrh{L:List (List Rat)}{i j:Nat}{r:List Rat}(a:i<L.length):(L.set i r).getD j []=if i=j then r else L.getD j []:=by
 rw[List.getD_eq_getElem?_getD,List.getD_eq_getElem?_getD,List.getElem?_set];split
 ·rename_i h;subst h;simp[a]
 ·rfl
theorem yrH(L:List (List Rat))(a k:Nat):(yre L a k).length=L.length:=by simp[yre]
theorem yrw(L:List (List Rat))(a c:Nat):(yrc L a c).length=L.length:=by simp[yrc]
theorem yrj(L:List (List Rat))(a c:Nat):∀r,(yrd L a c r).length=L.length
 | 0=>rfl
 | r+1=>by unfold yrd;split<;>simp[yrj L a c r]
section
variable {m N:Nat} {L:List (List Rat)} (h:Rect m N L)
include h
theorem yrm{a k:Nat}(f:a<m)(hk:k<m)(i:Nat):(yre L a k).getD i []=if i=k then L.getD a []else if i=a then L.getD k []else L.getD i []:=by
 unfold yre;rw[yrh (by rw[List.length_set,h.len];exact hk),yrh (by rw[h.len];exact f)];by_cases e:k=i
 ·rw[if_pos e,if_pos e.symm]
 ·rw[if_neg e,if_neg (Ne.symm e)];by_cases d:a=i
  ·rw[if_pos d,if_pos d.symm]
  ·rw[if_neg d,if_neg (Ne.symm d)]
theorem yrp{a k:Nat}(d:a<m)(hk:k<m):Rect m N (yre L a k):=⟨by rw[yrH,h.len],fun i e=>by
 rw[yrm h d hk];split
 ·exact h.row a d
 ·split
  ·exact h.row k hk
  ·exact h.row i e⟩
theorem yrq{a c:Nat}(d:a<m)(i:Nat):(yrc L a c).getD i []=if a=i then (L.getD a []).map fun x=>(en L a c)⁻¹*x else L.getD i []:=by
 unfold yrc;rw[yrh (by rw[h.len];exact d)]
theorem yrk{a c:Nat}(d:a<m):Rect m N (yrc L a c):=⟨by rw[yrw,h.len],fun i e=>by
 rw[yrq h d];split
 ·rw[List.length_map];exact h.row a d
 ·exact h.row i e⟩
theorem yrr{a c i j:Nat}(d:a<m)(hj:j<N):en (yrc L a c) i j=if a=i then (en L a c)⁻¹*en L a j else en L i j:=by
 unfold en;rw[yrq h d];split
 ·exact zyo (by rw[h.row a d];exact hj)
 ·rfl
theorem yrl{a c:Nat}(n:a<m):∀r,r≤m→Rect m N (yrd L a c r)∧∀i,i<m→(i=a∨r≤i→(yrd L a c r).getD i []=L.getD i [])∧(i<r→i≠a→∀j,j<N→en (yrd L a c r) i j=en L i j-en L i c*en L a j)
 | 0,_=>⟨h,fun i _=>⟨fun _=>rfl,fun h=>absurd h (Nat.not_lt_zero _)⟩⟩
 | r+1,hr=>by
  obtain⟨s,l⟩:=yrl n r (by omega) (c:=c);have o:(yrd L a c r).getD r []=L.getD r []:=(l r (by omega)).1 (.inr (Nat.le_refl _));have t:(yrd L a c r).getD a []=L.getD a []:=(l a n).1 (.inl rfl);have p:en (yrd L a c r) r c=en L r c:=by unfold en;rw[o]
  unfold yrd;by_cases f:r=a∨en (yrd L a c r) r c=0
  ·rw[if_pos f];refine⟨s,fun i g=>⟨fun d=>(l i g).1 (d.elim .inl fun k=>.inr (by omega)),fun d k j hj=>?_⟩⟩;by_cases e:i=r
   ·subst e;rcases f with f | f
    ·exact absurd f k
    ·rw[p]at f;rw[f];unfold en;rw[o];grind
   ·exact(l i g).2 (by omega) k j hj
  ·rw[if_neg f,o,t,p];have u:(zly (L.getD r []) (-en L r c) (L.getD a [])).length=N:=by rw[zdt (by rw[h.row r (by omega),h.row a n]),h.row r (by omega)]
   refine⟨⟨by rw[List.length_set,yrj,h.len],fun i g=>?_⟩,fun i g=>⟨fun d=>?_,fun d k j hj=>?_⟩⟩
   ·rw[yrh (by rw[yrj,h.len];omega)];split
    ·exact u
    ·exact s.row i g
   ·have x:¬r=i:=by
     rcases d with d | d
     ·intro e;exact f (.inl (e.trans d))
     ·omega
    rw[yrh (by rw[yrj,h.len];omega),if_neg x];exact(l i g).1 (d.elim .inl fun k=>.inr (by omega))
   ·unfold en;rw[yrh (by rw[yrj,h.len];omega)];by_cases e:r=i
    ·subst e;rw[if_pos rfl,zuD _ (by rw[h.row r (by omega),h.row a n]) (by rw[h.row r (by omega)];exact hj)];grind
    ·rw[if_neg e];exact(l i g).2 (by omega) k j hj
end
structure Red (m N:Nat) (A L:List (List Rat)) (ls:List Nat) (c:Nat):Prop where
  rect:Rect m N L
  le:ls.length≤m
  into:∀i,i<m→InS m N (en A) (en L i)
  out_:∀i,i<m→InS m N (en L) (en A i)
  lead:∀i,i<ls.length→ls.getD i 0<N∧∀i',i'<m→en L i' (ls.getD i 0)=if i'=i then 1 else 0
  zero:∀r,ls.length≤r→r<m→∀j,j<c→en L r j=0
theorem Red.step{m N:Nat}{A L:List (List Rat)}{ls:List Nat}{c:Nat}(h:Red m N A L ls c)(hc:c<N):Red m N A (yro L ls c).1 (yro L ls c).2 (c+1):=by
 have E:=yrn L c (L.length-ls.length) ls.length;have ac:=h.rect.len;unfold yro;cases e:yrg L c (L.length-ls.length) ls.length with
 | none =>
  rw[e]at E;refine⟨h.rect,h.le,h.into,h.out_,h.lead,fun r h1 s j hj=>?_⟩;by_cases G:j=c
  ·subst G;exact E r h1 (by omega)
  ·exact h.zero r h1 s j (by omega)
 | some k =>
  rw[e]at E;obtain⟨k1,k2,k3⟩:=E;obtain⟨a,z⟩:∃a,ls.length=a:=⟨_,rfl⟩
  have f:a<m:=by omega
  have hk:k<m:=by omega
  simp only[z];have I:=yrp h.rect f hk;have X:=fun i=>yrm h.rect f hk i
  have hS:=yrk I f (c:=c);obtain⟨C,y⟩:=yrl hS f m (Nat.le_refl _) (c:=c);rw[ac];obtain⟨P,Z⟩:∃P,yre L a k=P:=⟨_,rfl⟩
  rw[Z]at I X hS C y ⊢;have Q:=fun i j (hj:j<N)=>yrr I f (c:=c) (i:=i) hj
  obtain⟨T,ab⟩:∃T,yrc P a c=T:=⟨_,rfl⟩
  rw[ab]at hS C y Q ⊢;obtain⟨R,aa⟩:∃R,yrd T a c m=R:=⟨_,rfl⟩
  rw[aa]at C y ⊢;have o:∀i j,en P i j=if i=k then en L a j else if i=a then en L k j else en L i j:=fun i j=>by
   unfold en;rw[X i];split
   ·rfl
   ·split<;>rfl
  have pa:en P a c=en L k c:=by
   rw[o];by_cases e:a=k
   ·rw[if_pos e,e]
   ·rw[if_neg e,if_pos rfl]
  have D:en P a c≠0:=by rw[pa];exact k3
  have p:∀j,j<N→en T a j=(en P a c)⁻¹*en P a j:=fun j hj=>by rw[Q a j hj,if_pos rfl]
  have W:∀i j,j<N→i≠a→en T i j=en P i j:=fun i j hj d=>by rw[Q i j hj,if_neg (Ne.symm d)]
  have u:∀j,en R a j=en T a j:=fun j=>by unfold en;rw[(y a f).1 (.inl rfl)]
  have x:∀i,i<m→i≠a→∀j,j<N→en R i j=en P i j-en P i c*((en P a c)⁻¹*en P a j):=fun i d K j hj=>by
   rw[(y i d).2 d K j hj,W i j hj K,W i c hc K,p j hj]
  have V:∀r,a≤r→r<m→∀j,j<c→en P r j=0:=fun r h1 s j hj=>by
   rw[o];split
   ·exact h.zero a (by omega) f j hj
   ·split
    ·exact h.zero k (by omega) hk j hj
    ·exact h.zero r (by omega) s j hj
  have ae:∀i,i<m→InS m N (en L) (en P i):=fun i d=>by
   by_cases g:i=k
   ·exact(InS.row f).congr fun j _=>by rw[o,if_pos g]
   ·by_cases n:i=a
    ·exact(InS.row hk).congr fun j _=>by rw[o,if_neg g,if_pos n]
    ·exact(InS.row d).congr fun j _=>by rw[o,if_neg g,if_neg n]
  have ad:∀i,i<m→InS m N (en P) (en L i):=fun i d=>by
   by_cases g:i=a
   ·exact(InS.row hk).congr fun j _=>by rw[o,if_pos rfl,g]
   ·by_cases n:i=k
    ·exact(InS.row f).congr fun j _=>by
      rw[o];split
      ·rename_i e3;rw[n,←e3]
      ·rw[if_pos rfl,n]
    ·exact(InS.row d).congr fun j _=>by rw[o,if_neg n,if_neg g]
  have ag:∀i,i<m→InS m N (en P) (en R i):=fun i d=>by
   by_cases g:i=a
   ·exact((InS.row f).mul (en P a c)⁻¹).congr fun j hj=>by rw[g,u,p j hj]
   ·exact((InS.row d).add ((InS.row f).mul (-(en P i c*(en P a c)⁻¹)))).congr fun j hj=>by rw[x i d g j hj];grind
  have pR:∀j,j<N→en P a j=en P a c*en R a j:=fun j hj=>by
   rw[u,p j hj,←Rat.mul_assoc,Rat.mul_inv_cancel _ D,Rat.one_mul]
  have af:∀i,i<m→InS m N (en R) (en P i):=fun i d=>by
   by_cases g:i=a
   ·exact((InS.row f).mul (en P a c)).congr fun j hj=>by rw[g,pR j hj]
   ·exact((InS.row d).add ((InS.row f).mul (en P i c))).congr fun j hj=>by
     rw[x i d g j hj,u,p j hj];grind
  refine⟨C,by rw[List.length_append,z];simp;omega,fun i d=>(InS.trans (fun l J=>InS.trans h.into (ae l J)) (ag i d)),fun i d=>InS.trans (fun l J=>InS.trans af (ad l J)) (h.out_ i d),fun i d=>?_,fun r h1 s j hj=>?_⟩
  ·rw[List.length_append,z]at d;simp at d;by_cases g:i=a
   ·subst g;have F:(ls++[c]).getD i 0=c:=by rw[List.getD_eq_getElem?_getD,List.getElem?_append_right (by omega),z];simp
    rw[F];refine⟨hc,fun i' t=>?_⟩;by_cases n:i'=i
    ·rw[if_pos n,n,u,p c hc,Rat.inv_mul_cancel _ D]
    ·rw[if_neg n,x i' t n c hc,Rat.inv_mul_cancel _ D];grind
   ·have F:(ls++[c]).getD i 0=ls.getD i 0:=by rw[List.getD_eq_getElem?_getD,List.getElem?_append_left (by omega),←List.getD_eq_getElem?_getD]
    rw[F];obtain⟨M,O⟩:=h.lead i (by omega);refine⟨M,fun i' t=>?_⟩;have U:∀i',i'<m→en P i' (ls.getD i 0)=if i'=i then 1 else 0:=fun i' t=>by
     rw[o];split
     ·rw[O a f,if_neg (by omega),if_neg (by omega)]
     ·split
      ·rw[O k hk,if_neg (by omega),if_neg (by omega)]
      ·exact O i' t
    have Y:en P a (ls.getD i 0)=0:=by rw[U a f,if_neg (by omega)]
    by_cases n:i'=a
    ·rw[n,u,p _ M,Y,if_neg (by omega)];grind
    ·rw[x i' t n _ M,Y,U i' t];grind
  ·rw[List.length_append,z]at h1;simp at h1;rw[x r s (by omega) j (by omega)];by_cases G:j=c
   ·subst G;rw[Rat.inv_mul_cancel _ D];grind
   ·rw[V r (by omega) s j (by omega),V a (Nat.le_refl _) f j (by omega)];grind
theorem yrF{m N:Nat}{A:List (List Rat)}(h:Rect m N A):∀c,c≤N→Red m N A (yrf A c).1 (yrf A c).2 c
 | 0,_=>⟨h,Nat.zero_le _,fun i a=>InS.row a,fun i a=>InS.row a,fun i a=>absurd a (Nat.not_lt_zero _),fun r _ _ j hj=>absurd hj (Nat.not_lt_zero _)⟩
 | c+1,hc=>(yrF h c (by omega)).step (by omega)
end Am
namespace Am
def yri (N:Nat) (cols:List Nat):Nat→Nat
  | 0=>0
  | k+1=>yri N cols k+if N≤cols.getD k 0 then 1 else 0
theorem yrt(N:Nat)(cols:List Nat):∀k,(yri N cols k:Rat)+zai k (fun t=>if decide (cols.getD t 0<N)then (1:Rat)else 0)=(k:Rat)
 | 0=>by unfold yri zai;exact Rat.add_zero _
 | k+1=>by
  have d:=yrt N cols k;unfold yri zai;by_cases h:cols.getD k 0<N
  ·rw[if_neg (by omega)];simp only[h,decide_true,if_true,Nat.add_zero];have:((k+1:Nat):Rat)=(k:Rat)+1:=by simp
   grind
  ·rw[if_pos (by omega)];simp only[h,decide_false];have h1:((k+1:Nat):Rat)=(k:Rat)+1:=by simp
   have a:((yri N cols k+1:Nat):Rat)=(yri N cols k:Rat)+1:=by simp
   rw[h1,a];simp only[Bool.false_eq_true,if_false];grind
theorem yrG{p m:Nat}(h:p≤m):zai m (fun i=>if decide (i<p)then (1:Rat)else 0)=(p:Rat):=by
 rw[zh6 h fun i h1 d=>by rw[decide_eq_false (by omega)];simp,←zKs];exact zaj fun i a=>by rw[decide_eq_true a];simp
theorem yrN{m N:Nat}{A:List (List Rat)}{b:List Rat}{cols:List Nat}(h:Own m (N+m) N (zt0 A b) (zwh b) cols m)(hA:Rect m N A):yri N cols m+(yrf A N).2.length=m:=by
 have R:=yrF hA N (Nat.le_refl _);have D:=h.basis.dic (zwh b);have o:∀l,l<m→InS m N (en A) (en (zt0 A b) l):=fun l a=>((InS.row a).mul (sgn (el b l))).congr fun j hj=>zwf hA a hj
 have n:∀l,l<m→InS m N (en (zt0 A b)) (en A l):=fun l a=>((InS.row a).mul (sgn (el b l))).congr fun j hj=>by rw[zwf hA a hj,←Rat.mul_assoc,zDO,Rat.one_mul]
 have p:∀l,l<m→InS m N (fun r j=>el (zav (zt0 A b) cols j) r) (en (zt0 A b) l):=fun l a=>⟨fun k=>en (zt0 A b) l (cols.getD k 0),fun j hj=>(D.col j (by omega) l a).symm⟩
 have x:∀t,t<m→InS m N (en (zt0 A b)) (fun j=>el (zav (zt0 A b) cols j) t):=fun t d=>by
  obtain⟨Y,y,_⟩:=D.row t d;exact⟨Y,fun j hj=>y j (by omega)⟩
 have e:=yrE (K1:=fun i=>decide (i<(yrf A N).2.length)) (K2:=fun t=>decide (cols.getD t 0<N)) (L1:=fun i=>(yrf A N).2.getD i 0) (L2:=fun t=>cols.getD t 0)
  (R1:=en (yrf A N).1) (R2:=fun r j=>el (zav (zt0 A b) cols j) r)
  (fun i f=>InS.trans (fun l a=>InS.trans p (n l a)) (R.into i f))
  (fun t d=>InS.trans (fun l a=>InS.trans (fun l a=>R.out_ l a) (o l a)) (x t d))
  (fun i f hk j hj=>R.zero i (by have:=of_decide_eq_false hk;omega) f j hj)
  (fun t d hk j hj=>h.line t d d (by have:=of_decide_eq_false hk;omega) j hj)
  (fun i f hk=>R.lead i (of_decide_eq_true hk))
  (fun t d hk=>⟨of_decide_eq_true hk,fun g z=>by
   have u:=D.uni g t z d;rw[show el (zav (zt0 A b) cols (cols.getD t 0)) g=_ from u];by_cases e:t=g
   ·rw[if_pos e,if_pos e.symm]
   ·rw[if_neg e,if_neg (Ne.symm e)]⟩)
 rw[yrG R.le]at e;have s:=yrt N cols m;rw[←e]at s;have:((yri N cols m+(yrf A N).2.length:Nat):Rat)=(m:Rat):=by rw[←s];simp
 exact_mod_cast this
end Am
namespace Go.Proofs.YtmflbanlgkdgeaaGreatDoor
open Go.RowKit Am
section
variable {m N:Nat} {A:List (List Rat)} {b:List Rat} (hA:Rect m N A) (hb:b.length=m)
include hA hb
theorem yrX{B:Nat}{r:RunOut}{d:(List Nat × Nat) × Bool}(h:FeasTo m N A b B r d)(k:0<zSB N m A b r.cols) :
  ((scale ((-1:Int):Rat) (byL N A (bkL (b.map sgI) (zcl (zt0 A b) r.cols (zJG N m)) m))).any fun q=>decide (q<0))=false∧0<dot (bkL (b.map sgI) (zcl (zt0 A b) r.cols (zJG N m)) m) b:=by
 obtain⟨h1,g⟩:=(zTS h.basis h.feas hA hb h.stop).2 k;have ly:=(h.basis.duals_ok (zJG N m)).2;have f:∀i,i<m→el (bkL (b.map sgI) (zcl (zt0 A b) r.cols (zJG N m)) m) i=sgn (el b i)*el (zcl (zt0 A b) r.cols (zJG N m)) i:=fun i a=>zWQ hb ly a
 constructor
 ·refine zNy fun j hj=>?_
  rw[zVG,List.length_map,zkb]at hj;rw[zVG,zyo (by rw[zkb];exact hj),zx9 hj,hA.len,zaj fun i a=>by rw[f i a]];have:=h1 j hj;have e:((-1:Int):Rat) = -1:=rfl;rw[e];grind
 ·unfold dot ziw;rw[zSJ,ly,zaj fun i a=>by rw[f i a]];exact g
theorem ysf{cols:List Nat}(h:Own m (N+m) N (zt0 A b) (zwh b) cols m):((zh1 (N+m) cols (za5 (zt0 A b) (zwh b) cols)).any fun q=>decide (q<0))=false:=by
 obtain⟨a,_⟩:=h.fits hA hb;refine zNy fun j hj=>?_
 rw[zl8]at hj;rw[zvg hj,h.basis.len];exact a j
end
theorem yrM{nC m N:Nat}{cost:List Rat}{rows:List PRow}(hg:Good1 nC m cost rows)(a:cost.length=nC)(d:rows.length=m)(hN:nC+cnt rows m=N){cols:List Nat}(h:Own m (N+m) N (zt0 (zc3 rows) (zg8 rows)) (zwh (zg8 rows)) cols m) :
  znD cost rows ((zh1 (N+m) cols (za5 (zt0 (zc3 rows) (zg8 rows)) (zwh (zg8 rows)) cols)).take nC)=true:=by
 have hA:=zVA hg a d hN;have hb:=zVz hg a d hN;obtain⟨f,e⟩:=h.fits hA hb;refine zTT hg a d hN f e (by rw[List.length_take,zl8];omega) fun j hj=>?_
 rw[zT7 hj,zvg (by omega),h.basis.len]
