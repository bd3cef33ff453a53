/- Contracts and lemmas: Rnp. Conditions: as each says. -/
import Derived.Test.YtbdhheepakmgkaaGreatDoorProb1Zr
set_option linter.all false
namespace Am
section
variable {m N:Nat} {A:List (List Rat)} {b c:List Rat} {may:List Bool}
def worth (m N:Nat) (A:List (List Rat)) (b c:List Rat) (cols:List Nat):Rat:=zai N fun j=>el c j*pt m (fun k=>cols.getD k 0) (el (za5 A b cols)) j
theorem PPiv.cheaper{cols:List Nat}(h:Basis m N A cols)(hc:c.length=N){k j:Nat}(p:PPiv m N A b c may cols k j)(f:zyF m A b cols):worth m N A b c (cols.set k j)≤worth m N A b c cols:=by
 have E:=p.t;have q:=h.swap p.hk p.hj (show el (zav A cols j) k≠0 by grind);have z:=p.feas h f;have P:=h.pri hc;have s:=P.cost (q.dic b).pt_sol;have u:=P.value (h.dic b);have o:=zyA q.lt (el (za5 A b (cols.set k j))) (el (zaC N A cols c));have a:zai m (fun l=>el (zaC N A cols c) ((cols.set k j).getD l 0)*el (za5 A b (cols.set k j)) l)≤zai m (fun _=>0):=zUD fun l i=>by
  have B:=z l i;have D:=p.d;by_cases e:l=k
  ·subst e;have g:(cols.set l j).getD l 0=j:=by rw[List.getD_eq_getElem?_getD,List.getElem?_set_self (by rw[h.len];exact i)];rfl
   rw[g];have:=Rat.mul_nonneg (show 0 ≤ -el (zaC N A cols c) j by grind) B;grind
  ·have g:(cols.set k j).getD l 0=cols.getD l 0:=by rw[List.getD_eq_getElem?_getD,List.getElem?_set_ne (by omega),←List.getD_eq_getElem?_getD]
   rw[g,P.zero l i];grind
 rw[zgd]at a;have v:worth m N A b c (cols.set k j)=_:=s;have x:worth m N A b c cols=_:=u;have y:zai N (fun r=>el (zaC N A cols c) r*pt m (fun n=>(cols.set k j).getD n 0) (fun n=>el (za5 A b (cols.set k j)) n) r)≤0:=by
  have C:=o;have:zai m (fun l=>el (zaC N A cols c) ((cols.set k j).getD l 0)*el (za5 A b (cols.set k j)) l)=_:=o.symm;rw[this]at a;exact a
 rw[v,x];have:=y;grind
theorem yi9{cols:List Nat}(h:Basis m N A cols)(hc:c.length=N)(f:zyF m A b cols):∀i,worth m N A b c (zvo (zBX N A b c may) cols i)≤worth m N A b c cols
 | 0=>Rat.le_refl
 | i+1=>by
  have a:=yi9 h hc f i;obtain⟨h1,d⟩:=zVH h hc f i (may:=may);unfold zvo;split
  ·rename_i k j e
   exact Rat.le_trans ((zK6 h1 hc e).cheaper h1 hc d) a
  ·exact a
theorem yje{cols:List Nat}{k j:Nat}(e:zBX N A b c may cols=.piv k j):zdi (zaC N A cols c) may=some j:=by
 unfold zBX at e;split at e
 ·cases e
 ·rename_i i hi;split at e
  ·cases e
  ·injection e with e1 e2;rw[hi,e2]
theorem yjd{cols:List Nat}(e:zBX N A b c may cols=.stop):zdi (zaC N A cols c) may=none:=by
 unfold zBX at e;split at e
 ·assumption
 ·split at e<;>cases e
theorem yjc{cols:List Nat}{j:Nat}(e:zBX N A b c may cols=.bad j):zdi (zaC N A cols c) may=some j∧zDG cols (za5 A b cols) (zav A cols j)=none:=by
 unfold zBX at e;split at e
 ·cases e
 ·rename_i i hi;split at e
  ·rename_i hl;injection e with e;subst e;exact⟨hi,hl⟩
  ·cases e
structure RunsTo (m N:Nat) (A:List (List Rat)) (b c:List Rat) (may:List Bool) (B:Nat) (cols:List Nat) (r:RunOut):Prop where
  basis:Basis m N A r.cols
  feas:zyF m A b r.cols
  less:worth m N A b c r.cols≤worth m N A b c cols
  n:r.n≤B
  err:r.err=true→r.n=B∧∃j,zdi (zaC N A r.cols c) may=some j
  stop:r.err=false→r.at_=none→zdi (zaC N A r.cols c) may=none
  bad:∀j,r.err=false→r.at_=some j→j<N∧zdi (zaC N A r.cols c) may=some j∧zDG r.cols (za5 A b r.cols) (zav A r.cols j)=none
theorem yj7{cols:List Nat}(h:Basis m N A cols)(hc:c.length=N)(f:zyF m A b cols)(B:Nat):RunsTo m N A b c may B cols (pivs (zBX N A b c may) B cols):=by
 obtain⟨a,u,t,l,v⟩:=zoW (zBX N A b c may) B cols;have s:=zLj (zBX N A b c may) B cols;generalize pivs (zBX N A b c may) B cols=r at *
 obtain⟨h1,g⟩:=zVH h hc f r.n (may:=may);have i:=yi9 h hc f r.n (may:=may);rw[←a]at h1 g i;refine⟨h1,g,i,s,fun e=>?_,fun e d=>?_,fun j e d=>?_⟩
 ·obtain⟨o,k,j,p⟩:=t e;rw[←o,←a]at p;exact⟨o,j,yje p⟩
 ·have q:=l e;rw[d,←a]at q;exact yjd q
 ·have q:=l e;rw[d,←a]at q;exact⟨(zSR h1 hc q).1,yjc q⟩
end
section
variable {m N:Nat} {A:List (List Rat)} {b:List Rat} (hA:Rect m N A) (hb:b.length=m)
structure FeasTo (m N:Nat) (A:List (List Rat)) (b:List Rat) (B:Nat) (r:RunOut) (d:(List Nat × Nat) × Bool):Prop where
  err:r.err=false
  n:r.n≤binom (N+m) m
  basis:Basis m (N+m) (zt0 A b) r.cols
  feas:zyF m (zt0 A b) (zwh b) r.cols
  stop:zBX (N+m) (zt0 A b) (zwh b) (zJG N m) (zKc N m) r.cols=.stop
  own:¬0<zSB N m A b r.cols→d.2=false∧Own m (N+m) N (zt0 A b) (zwh b) d.1.1 m∧d.1.2≤m
include hA hb in
theorem yj6{B:Nat}(k:binom (N+m) m+m≤B):FeasTo m N A b B (pivs (zBX (N+m) (zt0 A b) (zwh b) (zJG N m) (zKc N m)) B (zKa N m)) (zSz N (N+m) (zt0 A b) (B-(pivs (zBX (N+m) (zt0 A b) (zwh b) (zJG N m) (zKc N m)) B (zKa N m)).n) m 0 ((pivs (zBX (N+m) (zt0 A b) (zwh b) (zJG N m) (zKc N m)) B (zKa N m)).cols,0)):=by
 obtain⟨cols,n,hr,f,h1,a,st⟩:=zUF (B:=B) hA hb (by omega);rw[hr];refine⟨rfl,f,h1,a,st,fun g=>?_⟩;have i:=(zTS h1 a hA hb st).1 (by show zSB N m A b cols≤0;simp only at g;grind);obtain⟨j,d⟩:=i.drive (by omega) m (Nat.le_refl _);have hF:zSG N (N+m) (zt0 A b) m 0 (cols,0)=zAd N (N+m) (zt0 A b) cols m:=by
  have:=zTL N (N+m) (zt0 A b) cols m 0;rw[Nat.zero_add]at this;exact this
 have e:=zSC N (N+m) (zt0 A b) (B-n) m 0 (cols,0) (by rw[hF];omega);rw[hF]at e;simp only;rw[e];exact⟨rfl,j,d⟩
end
