/- Contracts and lemmas: Eta Size2 Bas Lp1 Reg LuW LuW2. Conditions: as each says. -/
import Derived.Test.YtbhfhkcdfmmmiaaGreatDoorVec1Zd
import Derived.Deep.RegionHeld
set_option linter.all false
namespace Am
variable {F:LUv}{C D:List (List Rat)}{a v w x y:List Rat}{i k n:Nat}
structure CSq (n:Nat) (C:List (List Rat)):Prop where
  len:C.length=n
  col:∀i,i<n→(C.getD i []).length=n
def zcZ (n:Nat) (C:List (List Rat)):List (List Rat):=(List.range n).map fun r=>C.map fun c=>el c r
theorem zfJ(n:Nat)(C:List (List Rat)):(zcZ n C).length=n:=by simp[zcZ]
theorem zfK(h:CSq n C):∀i,i<n→((zcZ n C).getD i []).length=n:=by
 intro i c;unfold zcZ;rw[zbU _ _ (by simpa using c) 0];simp[h.len]
theorem zeI{j:Nat}(c:i<n)(hj:j<C.length):en (zcZ n C) i j=en C j i:=by
 unfold en zcZ;rw[zbU _ _ (by simpa using c) 0,zcA c];unfold el;rw[zbU _ _ hj []]
def CReg (n:Nat) (C:List (List Rat)):Prop:=Reg n fun i j=>en C j i
def Mk (n:Nat) (C:List (List Rat)) (x v:List Rat):Prop:=∀i,i<n→zai n (fun j=>en C j i*el x j)=el v i
def MkT (n:Nat) (C:List (List Rat)) (y c:List Rat):Prop:=∀j,j<n→zai n (fun i=>el y i*en C j i)=el c j
theorem zvk{M N:Nat→Nat→Rat}(h:∀i,i<n→∀j,j<n→M i j=N i j):Reg n M↔Reg n N:=by
 constructor
 ·intro r x d;exact r x fun i c=>by rw[←d i c];exact zaj fun j hj=>by rw[h i c j hj]
 ·intro r x d;exact r x fun i c=>by rw[←d i c];exact zaj fun j hj=>by rw[h i c j hj]
theorem zrk(h:CSq n C):Reg n (en (zcZ n C))↔CReg n C :=
 zvk fun _ c _ hj=>zeI c (by rw[h.len];exact hj)
theorem Mk.unique{n:Nat}{C:List (List Rat)}(h:CReg n C){x y v:List Rat}(d:Mk n C x v)(e:Mk n C y v)(f:x.length=n)(ly:y.length=n):x=y:=by
 have:=Reg.unique h (x:=el x) (y:=el y) fun i c=>by rw[d i c,e i c]
 exact zyn (by omega) fun i c=>this i (by omega)
def zes (n:Nat) (C:List (List Rat)) (v:List Rat):List Rat:=match zoN n (zcZ n C)with | some F=>zaR n F v | none=>[]
def zlA (n:Nat) (C:List (List Rat)) (v:List Rat):List Rat:=match zoN n (zcZ n C)with | some F=>zcq n F v | none=>[]
theorem ziH(h:CSq n C)(hr:CReg n C):∃F,zoN n (zcZ n C)=some F∧LUinv n (en (zcZ n C)) n F:=by
 rcases zoO (zfJ n C) (zfK h)with h1 | ⟨_,h2⟩
 ·exact h1
 ·exact absurd ((zrk h).2 hr) h2
theorem zAZ(h:CSq n C)(hr:¬CReg n C):zoN n (zcZ n C)=none:=by
 rcases zoO (zfJ n C) (zfK h)with ⟨G,h1,c⟩ | ⟨h1,_⟩
 ·exact absurd ((zrk h).1 c.reg) hr
 ·exact h1
theorem zxo(h:CSq n C)(hF:LUinv n (en (zcZ n C)) n F)(v:List Rat):Mk n C (zaR n F v) v:=fun i c=>by
 rw[←zsl hF v c];exact zaj fun j hj=>by rw[zeI c (by rw[h.len];exact hj)]
theorem zu3(h:CSq n C)(hF:LUinv n (en (zcZ n C)) n F)(v:List Rat):MkT n C (zcq n F v) v:=fun j hj=>by
 rw[←zla hF v hj];exact zaj fun i c=>by rw[zeI c (by rw[h.len];exact hj)]
theorem zci(h:CSq n C)(hr:CReg n C)(v:List Rat):Mk n C (zes n C v) v∧(zes n C v).length=n:=by
 obtain⟨F,e,hF⟩:=ziH h hr;unfold zes;rw[e];exact⟨zxo h hF v,zlb _ _ _⟩
theorem ze1(h:CSq n C)(hr:CReg n C)(v:List Rat):MkT n C (zlA n C v) v∧(zlA n C v).length=n:=by
 obtain⟨F,e,hF⟩:=ziH h hr;unfold zlA;rw[e];exact⟨zu3 h hF v,zoP _ _ _⟩
theorem znS(h:CSq n C)(hr:CReg n C)(c:Mk n C x v)(d:x.length=n):x=zes n C v :=
 Mk.unique hr c (zci h hr v).1 d (zci h hr v).2
theorem zBj(h:CSq n C)(hr:CReg n C)(d:MkT n C y v)(ly:y.length=n):y=zlA n C v:=by
 have s:=ze1 h hr v;have:=zqE (n:=n) (M:=fun i j=>en C j i) (fun v=>by
  refine⟨el (zes n C ((List.range n).map v)),fun i c=>?_⟩;rw[(zci h hr _).1 i c];unfold el;rw[zbU _ _ (by simpa using c) 0,zcA c]) (y:=el y) (z:=el (zlA n C v)) fun j hj=>by rw[d j hj,s.1 j hj]
 exact zyn (by omega) fun i c=>this i (by omega)
def zsC (n k:Nat) (w x:List Rat):List Rat:=(List.range n).map fun i=>if i=k then el x k/el w k else el x i-el w i*(el x k/el w k)
theorem zng(n k:Nat)(w x:List Rat):(zsC n k w x).length=n:=by simp[zsC]
theorem zkK(c:i<n):el (zsC n k w x) i=if i=k then el x k/el w k else el x i-el w i*(el x k/el w k):=by
 unfold zsC
 conv=>lhs;unfold el
 rw[zbU _ _ (by simpa using c) 0,zcA c];rfl
def zp2 (n k:Nat) (w z:List Rat):List Rat:=z.set k ((el z k-zai n (fun i=>if i=k then 0 else el w i*el z i))/el w k)
theorem zjn(n k:Nat)(w z:List Rat):(zp2 n k w z).length=z.length:=by simp[zp2]
theorem zvw(hk:k<C.length)(h:k<n)(x:Nat→Rat)(i:Nat):zai n (fun j=>en (C.set k a) j i*x j)=el a i*x k+zai n (fun j=>if j=k then 0 else en C j i*x j):=by
 rw[zdJ h]
 congr 1
 ·rw[zi2 hk,if_pos rfl]
 ·refine zaj fun j _=>?_
  by_cases e:j=k
  ·rw[if_pos e,if_pos e]
  ·rw[if_neg e,if_neg e,zi2 hk,if_neg (Ne.symm e)]
theorem zp3(h:CSq n C)(hk:k<n)(hw:Mk n C w a)(l:el w k≠0)(g:Mk n C x v):Mk n (C.set k a) (zsC n k w x) v:=by
 intro i c;rw[zvw (by rw[h.len];exact hk) hk];have d:zai n (fun j=>if j=k then 0 else en C j i*el (zsC n k w x) j)=zai n (fun j=>(if j=k then 0 else en C j i*el x j)+(-(el x k/el w k))*(if j=k then 0 else en C j i*el w j)):=zaj fun j hj=>by
  by_cases e:j=k
  ·rw[if_pos e,if_pos e,if_pos e];grind
  ·rw[if_neg e,if_neg e,if_neg e,zkK hj,if_neg e];grind
 rw[d,zcm,za7,zkK hk,if_pos rfl,←hw i c,←g i c,zdJ hk,zdJ (f:=fun j=>en C j i*el x j) hk];grind
theorem zuK{z:List Rat}(h:CSq n C)(hk:k<n)(hw:Mk n C w a)(r:el w k≠0)(s:z.length=n)(g:MkT n C y (zp2 n k w z)):MkT n (C.set k a) y z:=by
 have d:∀j,j<n→el (zp2 n k w z) j=if k=j then (el z k-zai n (fun i=>if i=k then 0 else el w i*el z i))/el w k else el z j:=fun j hj=>ziZ (by omega)
 intro j hj;by_cases e:j=k
 ·subst e;have c:zai n (fun i=>el y i*en (C.set j a) j i)=zai n (fun i=>zai n (fun t=>el y i*(en C t i*el w t))):=zaj fun i q=>by
   rw[zi2 (by rw[h.len];exact hk),if_pos rfl,←hw i q,za7]
  rw[c,zbq];have l:zai n (fun t=>zai n (fun i=>el y i*(en C t i*el w t)))=zai n (fun t=>el w t*el (zp2 n j w z) t):=zaj fun t f=>by
   rw[←g t f,←za7];exact zaj fun i _=>by grind
  rw[l,zdJ hk,d j hj,if_pos rfl];have p:zai n (fun t=>if t=j then 0 else el w t*el (zp2 n j w z) t)=zai n (fun t=>if t=j then 0 else el w t*el z t):=zaj fun t f=>by
   by_cases e:t=j
   ·rw[if_pos e,if_pos e]
   ·rw[if_neg e,if_neg e,d t f,if_neg (Ne.symm e)]
  rw[p];grind
 ·have c:zai n (fun i=>el y i*en (C.set k a) j i)=zai n (fun i=>el y i*en C j i):=zaj fun i _=>by
   rw[zi2 (by rw[h.len];exact hk),if_neg (Ne.symm e)]
  rw[c,g j hj,d j hj,if_neg (Ne.symm e)]
theorem CSq.set{n k:Nat}{C:List (List Rat)}{a:List Rat}(h:CSq n C)(d:a.length=n):CSq n (C.set k a):=by
 refine⟨by rw[List.length_set,h.len],fun i c=>?_⟩;rw[List.getD_eq_getElem?_getD,List.getElem?_set];split
 ·split
  ·exact d
  ·rename_i h1 h2;subst h1;exact absurd (by rw[h.len];exact c) h2
 ·have:=h.col i c;rw[List.getD_eq_getElem?_getD]at this;exact this
theorem zjl(h:CSq n C)(hr:CReg n C)(hk:k<n)(hw:Mk n C w a)(q:el w k≠0):CReg n (C.set k a):=by
 intro x p
 -- C (w x_k + x without k) = 0
 have g:=hr (fun j=>el w j*x k+if j=k then 0 else x j) fun i d=>by
  have l:zai n (fun j=>en C j i*(el w j*x k+if j=k then 0 else x j))=zai n (fun j=>en C j i*el w j*x k+if j=k then 0 else en C j i*x j):=zaj fun j _=>by split<;>grind
  have c:=p i d;rw[zvw (by rw[h.len];exact hk) hk]at c;rw[l,zcm,zb6,hw i d];exact c
 have f:x k=0:=by have:=g k hk;simp at this;grind
 intro j hj;by_cases e:j=k
 ·rw[e];exact f
 ·have:=g j hj;simp only[if_neg e,f]at this;grind
inductive Etas (n:Nat) (C:List (List Rat)):List (Nat × List Rat)→List (List Rat)→Prop where
 | nil:Etas n C [] C
 | snoc {es:List (Nat × List Rat)} {D:List (List Rat)} {k:Nat} {w a:List Rat} (h:Etas n C es D) (hk:k<n) (lw:w.length=n) (la:a.length=n) (hw:Mk n D w a) (hp:el w k≠0):Etas n C (es++[(k,w)]) (D.set k a)
theorem Etas.sq{es:List (Nat × List Rat)}(h:Etas n C es D)(hC:CSq n C):CSq n D:=by
 induction h with
 | nil=>exact hC
 | snoc _ _ _ la _ _ ih=>exact ih.set la
theorem Etas.reg{es:List (Nat × List Rat)}(h:Etas n C es D)(hC:CSq n C)(hr:CReg n C):CReg n D:=by
 induction h with
 | nil=>exact hr
 | snoc h hk _ _ hw hp ih=>exact zjl (h.sq hC) ih hk hw hp
def zix (n:Nat) (es:List (Nat × List Rat)) (x:List Rat):List Rat:=es.foldl (fun x e=>zsC n e.1 e.2 x) x
def zep (n:Nat) (es:List (Nat × List Rat)) (z:List Rat):List Rat:=es.foldr (fun e z=>zp2 n e.1 e.2 z) z
theorem zoB(es:List (Nat × List Rat)):∀(x:List Rat),x.length=n→(zix n es x).length=n:=by
 induction es with
 | nil=>exact fun x h=>h
 | cons e es ih=>exact fun x _=>ih _ (zng _ _ _ _)
theorem Etas.solve{es:List (Nat × List Rat)}(h:Etas n C es D)(hC:CSq n C)(c:Mk n C x v):Mk n D (zix n es x) v:=by
 induction h with
 | nil=>exact c
 | snoc h hk _ _ hw hp ih =>
  unfold zix;rw[List.foldl_append];exact zp3 (h.sq hC) hk hw hp ih
theorem Etas.solveT{es:List (Nat × List Rat)}(h:Etas n C es D)(hC:CSq n C):∀z:List Rat,z.length=n→MkT n C y (zep n es z)→MkT n D y z:=by
 induction h with
 | nil=>exact fun z _ c=>c
 | snoc h hk _ _ hw hp ih =>
  intro z d c;unfold zep at c;rw[List.foldr_append]at c;exact zuK (h.sq hC) hk hw hp d (ih _ (by show(zp2 _ _ _ z).length=n;rw[zjn];exact d) c)
theorem Etas.take{n:Nat}{C D:List (List Rat)}{es:List (Nat × List Rat)}(h:Etas n C es D):∀t,t<es.length→∃(E:List (List Rat)) (k:Nat) (w a:List Rat),Etas n C (es.take t) E∧es[t]? = some (k,w)∧k<n∧w.length=n∧Mk n E w a∧el w k≠0:=by
 induction h with
 | nil=>intro t c;simp at c
 | @snoc es D k w a h hk lw la hw hp ih =>
  intro t c;rw[List.length_append]at c;by_cases e:t<es.length
  ·obtain⟨E,g,w',a',h1,d,f⟩:=ih t e;exact⟨E,g,w',a',by rw[List.take_append_of_le_length (by omega)];exact h1,by rw[List.getElem?_append_left e];exact d,f⟩
  ·obtain rfl:t=es.length:=by simp at c;omega
   exact⟨D,k,w,a,by rw[List.take_append_of_le_length (Nat.le_refl _),List.take_length];exact h,by simp,hk,lw,hw,hp⟩
end Am
namespace Am
def sB (n S T:Nat):Nat:=xB n (uB n S) (cB n (S+T)) T
theorem ywp{n S T i:Nat}(c:i<n):cB n (S+T)≤sB n S T:=by
 have:=Nat.mul_le_mul_right (uB n S+cB n (S+T)+1) (show 1≤n by omega);unfold sB xB zB;omega
section
variable {m:Rat→Nat} (h:SzLaw m) {n S T:Nat} {M:Nat→Nat→Rat} {F:LUv} {b:List Rat} (hF:LUinv n M n F) (hS:∀i,i<n→∀j,j<n→m (M i j)≤S) (hT:∀i,i<n→m (el b i)≤T)
include h hF hS
include hT in
theorem ywq:∀i,i<n→m (el (zaR n F b) i)≤cB n (S+T) :=
 h.cram (M:=M) (b:=el b) (fun y d=>hF.reg y d) (fun i c j hj=>Nat.le_trans (hS i c j hj) (Nat.le_add_right _ _)) (fun i c=>Nat.le_trans (hT i c) (Nat.le_add_left _ _)) fun i c=>zsl hF b c
include hT in
theorem ywm:SolLe m n F b (sB n S T):=ywt h hF (hF.size h (Nat.le_refl _) hS) hT (ywq h hF hS hT)
include hT in
theorem ywr:∀i,i<n→m (el (zcq n F b) i)≤cB n (S+T) :=
 h.cram (M:=fun i j=>M j i) (b:=el b) (fun y d=>hF.regT y d) (fun i c j hj=>Nat.le_trans (hS j hj i c) (Nat.le_add_right _ _)) (fun i c=>Nat.le_trans (hT i c) (Nat.le_add_left _ _)) fun i c=>by
  rw[←zla hF b c];exact zaj fun j _=>by grind
theorem ywj{x:Nat}(hT:∀i,i<n→m (el b i)≤T)(c:∀i,i<n→m (el (zcq n F b) i)≤x):SolTLe m n F b (xB n (uB n S) x T):=ywo h hF (hF.size h (Nat.le_refl _) hS) hT c
end
section
variable {m:Rat→Nat} (h:SzLaw m) {n S T:Nat} {C:List (List Rat)} {v:List Rat} (hC:CSq n C) (hr:CReg n C) (hS:∀j,j<n→∀i,i<n→m (en C j i)≤S) (hT:∀i,i<n→m (el v i)≤T)
include h hC hr hS hT
theorem yws:∀i,i<n→m (el (zes n C v) i)≤cB n (S+T):=by
 obtain⟨F,e,hF⟩:=ziH hC hr;unfold zes;rw[e];exact ywq h hF (fun i c j hj=>by rw[zeI c (by rw[hC.len];exact hj)];exact hS j hj i c) hT
theorem ywh:∀i,i<n→m (el (zlA n C v) i)≤cB n (S+T):=by
 obtain⟨F,e,hF⟩:=ziH hC hr;unfold zlA;rw[e];exact ywr h hF (fun i c j hj=>by rw[zeI c (by rw[hC.len];exact hj)];exact hS j hj i c) hT
theorem zo0:∀i,i<n→m (el (zes n C v) i)≤sB n S T:=fun i c=>Nat.le_trans (yws h hC hr hS hT i c) (ywp c)
theorem zlj:∀i,i<n→m (el (zlA n C v) i)≤sB n S T:=fun i c=>Nat.le_trans (ywh h hC hr hS hT i c) (ywp c)
end
end Am
namespace Am
variable {C D:List (List Rat)}{v w x z:List Rat}{S T i j k n t:Nat}
def zhg (m:Rat→Nat) (n S:Nat) (C:List (List Rat)):Prop:=∀j,j<n→∀i,i<n→m (en C j i)≤S
inductive EtasZ (m:Rat→Nat) (S n:Nat) (D:List (List Rat)):List (Nat × List Rat)→List (List Rat)→Prop where
  | nil (h:CSq n D) (hr:CReg n D) (hz:zhg m n S D):EtasZ m S n D [] D
  | snoc {es:List (Nat × List Rat)} {E:List (List Rat)} {k:Nat} {a:List Rat} (h:EtasZ m S n D es E) (hk:k<n) (la:a.length=n) (za:∀i,i<n→m (el a i)≤S) (hp:el (zes n E a) k≠0):EtasZ m S n D (es++[(k,zes n E a)]) (E.set k a)
namespace EtasZ
variable {m:Rat→Nat} {S n:Nat} {D:List (List Rat)} {es:List (Nat × List Rat)} {C:List (List Rat)}
theorem good(h:EtasZ m S n D es C):CSq n C∧CReg n C∧zhg m n S C:=by
 induction h with
 | nil h hr hz=>exact⟨h,hr,hz⟩
 | @snoc es E k a h hk la za hp ih =>
  obtain⟨h1,c,e⟩:=ih;refine⟨h1.set la,zjl h1 c hk (zci h1 c a).1 hp,fun j hj i d=>?_⟩;rw[zi2 (by rw[h1.len];exact hk)];split
  ·exact za i d
  ·exact e j hj i d
theorem base(h:EtasZ m S n D es C):CSq n D∧CReg n D∧zhg m n S D:=by
 induction h with
 | nil h hr hz=>exact⟨h,hr,hz⟩
 | snoc _ _ _ _ _ ih=>exact ih
theorem etas(h:EtasZ m S n D es C):Etas n D es C:=by
 induction h with
 | nil=>exact .nil
 | @snoc es E k a h hk la za hp ih=>exact .snoc ih hk (zci h.good.1 h.good.2.1 a).2 la (zci h.good.1 h.good.2.1 a).1 hp
theorem take(h:EtasZ m S n D es C):∀t,t≤es.length→∃E,EtasZ m S n D (es.take t) E∧∀(e:Nat × List Rat),es[t]? = some e→e.1<n∧e.2.length=n∧el e.2 e.1≠0∧∃a,e.2=zes n E a∧∀i,i<n→m (el a i)≤S:=by
  induction h with
  | nil h hr hz => intro t d;obtain rfl:t = 0:=by simpa using d
                   exact⟨_,.nil h hr hz,fun e p=>by simp at p⟩
  | @snoc es E k a h hk la za hp ih =>
    intro t d;rw[List.length_append]at d;by_cases e:t≤es.length
    · obtain⟨f,h1,l⟩:=ih t e;by_cases g:t<es.length
      · exact⟨f,by rw[List.take_append_of_le_length e];exact h1,fun x c=>l x (by rw[List.getElem?_append_left g]at c;exact c)⟩
      · obtain rfl:t=es.length:=by omega
        refine⟨E,by rw[List.take_append_of_le_length e,List.take_length];exact h,fun x c=>?_⟩;simp at c;subst c;exact⟨hk,(zci h.good.1 h.good.2.1 a).2,hp,a,rfl,za⟩
    · obtain rfl:t=es.length+1:=by simp at d;omega
      refine⟨E.set k a,?_,fun x c=>?_⟩
      · rw[List.take_of_length_le (by simp)];exact .snoc h hk la za hp
      · rw[List.getElem?_eq_none (by simp)]at c;cases c
end EtasZ
theorem zsd{es:List (Nat × List Rat)}{e:Nat × List Rat}(h:es[t]? = some e)(x:List Rat):zix n (es.take (t+1)) x=zsC n e.1 e.2 (zix n (es.take t) x):=by
 unfold zix;rw[List.take_add_one,h];simp
theorem zwJ{m:Rat→Nat}{es:List (Nat × List Rat)}(h:EtasZ m S n D es C)(v:List Rat)(e:t≤es.length):∃E,EtasZ m S n D (es.take t) E∧zix n (es.take t) (zes n D v)=zes n E v:=by
 obtain⟨E,h1,_⟩:=h.take t e;have c:=h.base;have d:=zci c.1 c.2.1 v;exact⟨E,h1,znS h1.good.1 h1.good.2.1 (h1.etas.solve c.1 d.1) (zoB _ _ d.2)⟩
theorem zvq{m:Rat→Nat}{es:List (Nat × List Rat)}(h:EtasZ m S n D es C)(v:List Rat):zix n es (zes n D v)=zes n C v:=by
 have c:=h.base;have d:=zci c.1 c.2.1 v;exact znS h.good.1 h.good.2.1 (h.etas.solve c.1 d.1) (zoB _ _ d.2)
theorem zsc{m:Rat→Nat}(hm:SzLaw m){es:List (Nat × List Rat)}(h:EtasZ m S n D es C)(e:∀i,i<n→m (el v i)≤T)(d:t≤es.length):∀i,i<n→m (el (zix n (es.take t) (zes n D v)) i)≤sB n S T:=by
 obtain⟨E,h1,c⟩:=zwJ h v d;rw[c];exact zo0 hm h1.good.1 h1.good.2.1 h1.good.2.2 e
theorem zrn{m:Rat→Nat}(hm:SzLaw m){es:List (Nat × List Rat)}(h:EtasZ m S n D es C){e:Nat × List Rat}(c:es[t]? = some e):e.1<n∧e.2.length=n∧el e.2 e.1≠0∧∀i,i<n→m (el e.2 i)≤sB n S S:=by
 obtain⟨E,h1,p⟩:=h.take t (Nat.le_of_lt (List.getElem?_eq_some_iff.1 c).1);obtain⟨d,f,g,a,k,l⟩:=p e c;refine⟨d,f,g,fun i q=>?_⟩;rw[k];exact zo0 hm h1.good.1 h1.good.2.1 h1.good.2.2 l i q
def zoA (n k:Nat) (w x:List Rat) (j:Nat):List Rat:=(List.range n).map fun i=>if i=k then el x k/el w k else if i<j then el x i-el w i*(el x k/el w k)else el x i
theorem zjm(n k:Nat)(w x:List Rat)(j:Nat):(zoA n k w x j).length=n:=by simp[zoA]
theorem zkJ(c:i<n):(zoA n k w x j)[i]? = some (if i=k then el x k/el w k else if i<j then el x i-el w i*(el x k/el w k)else el x i):=by
 unfold zoA;rw[List.getElem?_map,List.getElem?_range c];rfl
theorem zuG(d:x.length=n):x.set k (el x k/el w k)=zoA n k w x 0:=by
 apply List.ext_getElem?;intro i;by_cases c:i<n
 ·rw[zkJ c,List.getElem?_set];by_cases e:k=i
  ·subst e;rw[if_pos rfl,if_pos (by omega),if_pos rfl]
  ·rw[if_neg e,if_neg (Ne.symm e),if_neg (by omega)];exact zaH (by omega)
 ·rw[List.getElem?_eq_none (by simp;omega),List.getElem?_eq_none (by rw[zjm];omega)]
theorem zuF:zoA n k w x k=zoA n k w x (k+1):=by
 unfold zoA;apply List.map_congr_left;intro i _;by_cases e:i=k
 ·rw[if_pos e,if_pos e]
 ·rw[if_neg e,if_neg e];by_cases c:i<k
  ·rw[if_pos c,if_pos (by omega)]
  ·rw[if_neg c,if_neg (by omega)]
theorem zwI(h:j≠k)(hj:j<n):(zoA n k w x j).set j (el x j-el w j*(el x k/el w k))=zoA n k w x (j+1):=by
 apply List.ext_getElem?;intro i;by_cases f:i<n
 ·rw[zkJ f,List.getElem?_set,zjm];by_cases e:j=i
  ·subst e;rw[if_pos rfl,if_pos hj,if_neg h,if_pos (by omega)]
  ·rw[if_neg e,zkJ f];by_cases c:i=k
   ·rw[if_pos c,if_pos c]
   ·rw[if_neg c,if_neg c];by_cases d:i<j
    ·rw[if_pos d,if_pos (by omega)]
    ·rw[if_neg d,if_neg (by omega)]
 ·rw[List.getElem?_eq_none (by rw[List.length_set,zjm];omega),List.getElem?_eq_none (by rw[zjm];omega)]
theorem zuE(n k:Nat)(w x:List Rat):zoA n k w x n=zsC n k w x:=by
 unfold zoA zsC;apply List.map_congr_left;intro i c;by_cases e:i=k
 ·rw[if_pos e,if_pos e]
 ·rw[if_neg e,if_neg e,if_pos (by simpa using c)]
def zhB (k:Nat) (w z:List Rat) (j:Nat):Rat:=el z k-zai j (fun i=>if i=k then 0 else el w i*el z i)
def zeJ (k:Nat) (w z:List Rat) (j:Nat):List Rat:=z.set k (zhB k w z j)
theorem zsa(k:Nat)(w z:List Rat):zeJ k w z 0=z:=by
 unfold zeJ zhB;apply List.ext_getElem?;intro i;rw[List.getElem?_set];by_cases e:k=i
 ·subst e;rw[if_pos rfl];by_cases h:k<z.length
  ·rw[if_pos h,zaH h];simp only[zai];congr 1;grind
  ·rw[if_neg h,List.getElem?_eq_none (by omega)]
 ·rw[if_neg e]
theorem zr9:zeJ k w z k=zeJ k w z (k+1):=by
 unfold zeJ zhB;rw[zai,if_pos rfl];congr 1;grind
theorem zuJ(h:j≠k):(zeJ k w z j).set k (zhB k w z j-el w j*el z j)=zeJ k w z (j+1):=by
 unfold zeJ zhB;rw[List.set_set,zai,if_neg h];congr 1;grind
theorem zuI(h:k<z.length):(zeJ k w z j)[k]? = some (zhB k w z j):=by
 unfold zeJ;rw[List.getElem?_set_self h]
theorem zuH(h:i≠k)(c:i<z.length):(zeJ k w z j)[i]? = some (el z i):=by
 unfold zeJ;rw[List.getElem?_set_ne (Ne.symm h),zaH c]
theorem zr8(h:z.length=n):(zeJ k w z n).set k (zhB k w z n/el w k)=zp2 n k w z:=by
 unfold zeJ zp2;rw[List.set_set];rfl
theorem zsb{es:List (Nat × List Rat)}{e:Nat × List Rat}(h:es[t]? = some e)(v:List Rat):zep n (es.drop t) v=zp2 n e.1 e.2 (zep n (es.drop (t+1)) v):=by
 have c:=(List.getElem?_eq_some_iff.1 h).1;rw[List.drop_eq_getElem_cons c];rw[List.getElem?_eq_getElem c]at h;injection h with h;rw[h];rfl
theorem zuL(es:List (Nat × List Rat))(v:List Rat):zep n (es.drop es.length) v=v:=by rw[List.drop_length];rfl
theorem backs{m:Rat→Nat}{es:List (Nat × List Rat)}(h:EtasZ m S n D es C){y:List Rat}:∀v:List Rat,v.length=n→MkT n D y (zep n es v)→∀t,t≤es.length→∃E,EtasZ m S n D (es.take t) E∧MkT n E y (zep n (es.drop t) v):=by
  induction h with
  | nil h hr hz => intro v _ c t d;obtain rfl:t = 0:=by simpa using d
                   exact⟨_,.nil h hr hz,c⟩
  | @snoc es E k a h hk la za hp ih =>
    intro v f c t d;have hg:=h.good;have s:=zci hg.1 hg.2.1 a;have p:∀l:List (Nat × List Rat),zep n (l++[(k,zes n E a)]) v=zep n l (zp2 n k (zes n E a) v):=fun l=>by unfold zep;rw[List.foldr_append];rfl
    rw[p]at c;rw[List.length_append]at d;by_cases e:t≤es.length
    · obtain⟨g,h1,q⟩:=ih (zp2 n k (zes n E a) v) (by rw[zjn];exact f) c t e;refine⟨g,by rw[List.take_append_of_le_length e];exact h1,?_⟩;rw[List.drop_append_of_le_length e,p];exact q
    · obtain rfl:t=es.length+1:=by simp at d;omega
      refine⟨E.set k a,by rw[List.take_of_length_le (by simp)];exact .snoc h hk la za hp,?_⟩;rw[List.drop_of_length_le (by simp)];obtain⟨g,h1,q⟩:=ih (zp2 n k (zes n E a) v) (by rw[zjn];exact f) c es.length (Nat.le_refl _);have r:=h.etas.solveT h.base.1 (zp2 n k (zes n E a) v) (by rw[zjn];exact f) c;exact zuK hg.1 hk s.1 hp f r
theorem zo1{m:Rat→Nat}{es:List (Nat × List Rat)}(h:EtasZ m S n D es C)(e:v.length=n):zlA n D (zep n es v)=zlA n C v:=by
 have c:=h.base;have d:=ze1 c.1 c.2.1 (zep n es v);exact zBj h.good.1 h.good.2.1 (h.etas.solveT c.1 v e d.1) d.2
theorem zxI{m:Rat→Nat}(h:SzLaw m)(f:Nat→Rat)(s k:Nat)(c:∀i,i<k→m (f i)≤s):m (zai k f)≤1+k*(s+1):=h.sum f s k c
def tB (n S T:Nat):Nat:=1+n*(cB n (S+T)+S+1)
theorem zr1{m:Rat→Nat}(hm:SzLaw m){es:List (Nat × List Rat)}(h:EtasZ m S n D es C)(e:v.length=n)(q:∀i,i<n→m (el v i)≤T)(p:t≤es.length):∀i,i<n→m (el (zep n (es.drop t) v) i)≤tB n S T:=by
 have c:=h.base;have l:=ze1 c.1 c.2.1 (zep n es v);obtain⟨E,h1,g⟩:=backs h v e l.1 t p;intro i d;rw[←g i d];refine zxI hm _ _ n fun k hk=>?_
 have r:=hm.mul (el (zlA n D (zep n es v)) k) (en E i k);have f:=ywh hm h.good.1 h.good.2.1 h.good.2.2 q k hk;rw[←zo1 h e]at f;have s:=h1.good.2.2 i d k hk;omega
theorem zl2{m:Rat→Nat}(hm:SzLaw m){a b:Nat}(hw:∀i,i<n→m (el w i)≤a)(c:∀i,i<n→m (el z i)≤b)(hk:k<n)(hj:j≤n):m (zhB k w z j)≤b+n*(a+b+2):=by
 unfold zhB;have h1:=hm.subSum (el z k) (fun i=>if i=k then 0 else el w i*el z i) (a+b+1) j (fun i d=>by
  show m (if i=k then 0 else el w i*el z i)≤_
  split
  ·have:=hm.zero;omega
  ·have:=hm.mul (el w i) (el z i);have:=hw i (by omega);have:=c i (by omega);omega)
 have:=c k hk;have:=Nat.mul_le_mul_right (a+b+1+1) hj;show m (el z k-zai j (fun i=>if i=k then 0 else el w i*el z i))≤_
 rw[show a+b+2=a+b+1+1 by omega];omega
end Am
namespace Am
variable {A:List (List Rat)}{cols:List Nat}{c v x y:List Rat}{i j k m r:Nat}
def zb4 (A:List (List Rat)) (j:Nat):List Rat:=A.map fun r=>el r j
def bc (A:List (List Rat)) (cols:List Nat):List (List Rat):=cols.map (zb4 A)
structure Rect (m N:Nat) (A:List (List Rat)):Prop where
  len:A.length=m
  row:∀i,i<m→(A.getD i []).length=N
theorem zbH(A:List (List Rat))(j:Nat):(zb4 A j).length=A.length:=by simp[zb4]
theorem zhw(h:i<A.length):el (zb4 A j) i=en A i j:=by
 unfold zb4 en
 conv=>lhs;unfold el
 rw[zbU _ _ h []];rfl
theorem zx7(A:List (List Rat))(cols:List Nat):(bc A cols).length=cols.length:=by simp[bc]
theorem zx6(h:k<cols.length):(bc A cols).getD k []=zb4 A (cols.getD k 0):=zbU _ _ h 0 _
theorem ztZ(h:k<cols.length)(c:i<A.length):en (bc A cols) k i=en A i (cols.getD k 0):=by
 unfold en;rw[zx6 h];exact zhw c
theorem zGH(c:A.length=m)(hc:cols.length=m):CSq m (bc A cols) :=
 ⟨by rw[zx7,hc],fun i d=>by rw[zx6 (by omega),zbH,c]⟩
theorem zq6:bc A (cols.set k j)=(bc A cols).set k (zb4 A j):=by simp[bc,List.map_set]
def zdL (m r:Nat):List Rat:=(List.replicate m 0).set r 1
theorem zfM(m r:Nat):(zdL m r).length=m:=by simp[zdL]
theorem zge(h:r<m):el (zdL m r) i=if r=i then 1 else 0:=by unfold zdL;rw[ziZ (by simpa using h),zrm]
def byL (N:Nat) (A:List (List Rat)) (y:List Rat):List Rat:=(List.range N).map fun j=>zai A.length fun i=>el y i*en A i j
theorem zkb(N:Nat)(A:List (List Rat))(y:List Rat):(byL N A y).length=N:=by simp[byL]
theorem zx9{N:Nat}(h:j<N):el (byL N A y) j=zai A.length fun i=>el y i*en A i j:=by
 unfold byL
 conv=>lhs;unfold el
 rw[zbU _ _ (by simpa using h) 0,zcA h];rfl
def za5 (A:List (List Rat)) (b:List Rat) (cols:List Nat):List Rat:=zes cols.length (bc A cols) b
def zav (A:List (List Rat)) (cols:List Nat) (j:Nat):List Rat:=zes cols.length (bc A cols) (zb4 A j)
def zbf (A:List (List Rat)) (cols:List Nat) (r:Nat):List Rat:=zlA cols.length (bc A cols) (zdL cols.length r)
def zk8 (N:Nat) (A:List (List Rat)) (cols:List Nat) (r:Nat):List Rat:=byL N A (zbf A cols r)
def zcl (A:List (List Rat)) (cols:List Nat) (c:List Rat):List Rat:=zlA cols.length (bc A cols) (cols.map fun j=>el c j)
def zaC (N:Nat) (A:List (List Rat)) (cols:List Nat) (c:List Rat):List Rat:=zly c (-1) (byL N A (zcl A cols c))
structure Basis (m N:Nat) (A:List (List Rat)) (cols:List Nat):Prop where
  rect:Rect m N A
  len:cols.length=m
  lt:∀k,k<m→cols.getD k 0<N
  inj:∀k l,k<m→l<m→cols.getD k 0=cols.getD l 0→k=l
  reg:CReg m (bc A cols)
namespace Basis
variable {m N:Nat} {A:List (List Rat)} {cols:List Nat} (h:Basis m N A cols)
include h
theorem sq:CSq m (bc A cols):=zGH h.rect.len h.len
theorem vals_ok(b:List Rat):Mk m (bc A cols) (za5 A b cols) b∧(za5 A b cols).length=m:=by
 unfold za5;rw[h.len];exact zci h.sq h.reg b
theorem column_ok(j:Nat):Mk m (bc A cols) (zav A cols j) (zb4 A j)∧(zav A cols j).length=m:=by
 unfold zav;rw[h.len];exact zci h.sq h.reg _
theorem weights_ok(r:Nat):MkT m (bc A cols) (zbf A cols r) (zdL m r)∧(zbf A cols r).length=m:=by
 unfold zbf;rw[h.len];exact ze1 h.sq h.reg _
theorem duals_ok(c:List Rat):MkT m (bc A cols) (zcl A cols c) (cols.map fun j=>el c j)∧(zcl A cols c).length=m:=by
 unfold zcl;rw[h.len];exact ze1 h.sq h.reg _
theorem mk_en(d:Mk m (bc A cols) x v)(c:i<m):zai m (fun k=>en A i (cols.getD k 0)*el x k)=el v i:=by
 rw[←d i c];exact zaj fun k hk=>by rw[ztZ (by rw[h.len];exact hk) (by rw[h.rect.len];exact c)]
theorem mkT_en(d:MkT m (bc A cols) y v)(hk:k<m):zai m (fun i=>el y i*en A i (cols.getD k 0))=el v k:=by
 rw[←d k hk];exact zaj fun i c=>by rw[ztZ (by rw[h.len];exact hk) (by rw[h.rect.len];exact c)]
theorem by_weights(hr:r<m)(g:Mk m (bc A cols) x v):el x r=zai m fun i=>el (zbf A cols r) i*el v i:=by
 have e:zai m (fun i=>el (zbf A cols r) i*el v i)=zai m fun i=>zai m fun k=>el (zbf A cols r) i*en A i (cols.getD k 0)*el x k:=zaj fun i d=>by
  rw[←h.mk_en g d,←za7];exact zaj fun k _=>by grind
 rw[e,zbq];have c:zai m (fun k=>zai m fun i=>el (zbf A cols r) i*en A i (cols.getD k 0)*el x k)=zai m fun k=>el (zdL m r) k*el x k:=zaj fun k hk=>by
  rw[zb6,h.mkT_en (h.weights_ok r).1 hk]
 rw[c,zbI (k:=r) hr fun k _ f=>by rw[zge hr,if_neg (Ne.symm f)];grind,zge hr,if_pos rfl];grind
theorem line_el(hr:r<m)(hj:j<N):el (zk8 N A cols r) j=el (zav A cols j) r:=by
 unfold zk8;rw[zx9 hj,h.by_weights hr (h.column_ok j).1,h.rect.len];exact zaj fun i c=>by rw[zhw (by rw[h.rect.len];exact c)]
theorem dic(b:List Rat):Dic m N (en A) (el b) (fun k=>cols.getD k 0) (fun r j=>el (zav A cols j) r) (fun k=>el (za5 A b cols) k) where
 lt:=h.lt
 inj:=h.inj
 uni:=fun r k hr hk=>by
  have e:=Mk.unique h.reg (h.column_ok (cols.getD k 0)).1 (y:=zdL m k) (fun i c=>by
   rw[zbI (k:=k) hk fun l _ d=>by rw[zge hk,if_neg (Ne.symm d)];grind,zge hk,if_pos rfl,ztZ (by rw[h.len];exact hk) (by rw[h.rect.len];exact c),zhw (by rw[h.rect.len];exact c)];grind) (h.column_ok _).2 (zfM _ _)
  show el (zav A cols (cols.getD k 0)) r=_
  rw[e,zge hk]
 row:=fun r hr=>⟨el (zbf A cols r),fun j hj=>by
  show el (zav A cols j) r=_
  rw[h.by_weights hr (h.column_ok j).1];exact zaj fun i c=>by rw[zhw (by rw[h.rect.len];exact c)],h.by_weights hr (h.vals_ok b).1⟩
 col:=fun j _ i c=>by
  show zai m (fun k=>en A i (cols.getD k 0)*el (zav A cols j) k)=_
  rw[h.mk_en (h.column_ok j).1 c,zhw (by rw[h.rect.len];exact c)]
 sol:=fun i c=>h.mk_en (h.vals_ok b).1 c
theorem prices_el(hc:c.length=N)(hj:j<N):el (zaC N A cols c) j=el c j-zai m fun i=>el (zcl A cols c) i*en A i j:=by
 unfold zaC;rw[zuD _ (by rw[zkb,hc]) (by rw[hc];exact hj),zx9 hj,h.rect.len];grind
theorem pri(hc:c.length=N):Pri m N (en A) (el c) (fun k=>cols.getD k 0) (el (zcl A cols c)) (el (zaC N A cols c)) where
 eq:=fun j hj=>h.prices_el hc hj
 zero:=fun k hk=>by
  show el (zaC N A cols c) (cols.getD k 0)=0
  rw[h.prices_el hc (h.lt k hk),h.mkT_en (h.duals_ok c).1 hk];unfold el;rw[zbU _ _ (by rw[h.len];exact hk) 0];grind
theorem swap(hk:k<m)(hj:j<N)(r:el (zav A cols j) k≠0):Basis m N A (cols.set k j):=by
 have q:¬Bas m (fun k=>cols.getD k 0) j∨cols.getD k 0=j:=by
  by_cases c:Bas m (fun k=>cols.getD k 0) j
  ·obtain⟨l,f,e⟩:=c;have u:=(h.dic []).uni k l hk f;simp only[e]at u;by_cases p:l=k
   ·exact .inr (by rw[←p];exact e)
   ·rw[if_neg p]at u;exact absurd u r
  ·exact .inl c
 have g:∀l,l<m→(cols.set k j).getD l 0=if k=l then j else cols.getD l 0:=fun l _=>gset (by rw[h.len];exact hk)
 refine⟨h.rect,by rw[List.length_set,h.len],fun l f=>?_,fun a b d c e=>?_,?_⟩
 ·rw[g l f];split
  ·exact hj
  ·exact h.lt l f
 ·rw[g a d,g b c]at e;split at e<;>split at e
  ·omega
  ·rename_i h1 h2
   rcases q with h3 | h3
   ·exact absurd ⟨b,c,e.symm⟩ h3
   ·exact absurd (h.inj k b hk c (by omega)) h2
  ·rename_i h1 h2
   rcases q with h3 | h3
   ·exact absurd ⟨a,d,e⟩ h3
   ·exact absurd (h.inj k a hk d (by omega)) h1
  ·exact h.inj a b d c e
 ·rw[zq6];exact zjl h.sq h.reg hk (h.column_ok j).1 r
end Basis
end Am
namespace Go
variable {late:List Nat}{fuel i id:Nat}{v:Value}{w:World}
theorem pu1{α:Type _}(l:List α)(i:Nat)(a:α):l.toArray.setIfInBounds i a=(l.set i a).toArray:=List.setIfInBounds_toArray l i a
theorem pu2{α:Type _}{l:List α}{a b:α}:(a::l).set 0 b=b::l:=rfl
theorem pu3{α:Type _}{l:List α}{a b:α}{n:Nat}:(a::l).set (n+1) b=a::l.set n b:=rfl
theorem pu4{α:Type _}{l:List α}(h:i<l.toArray.size):l.toArray[i]=l[i]'(by simpa using h):=rfl
theorem pu5{α:Type _}{l:List α}{a:α}(h:0<(a::l).length):(a::l)[0]=a:=rfl
theorem pu6{α:Type _}{l:List α}{a:α}(h:i+1<(a::l).length):(a::l)[i+1]=l[i]'(Nat.lt_of_succ_lt_succ h):=rfl
theorem kp{p:Prop}(h:p:=by((try go_split_ands);(try simp only[World.cell?_drew]);with_reducible repeat' first | assumption | apply And.intro | refine Proofs.YtbhfhkcdfmmmiaaGreatDoor.cell_set (by omega) ?_ | refine Proofs.YtbhfhkcdfmmmiaaGreatDoor.cell_al ?_)):p:=h
section
variable {P:Program} {ops:Array Oper} {Q:Exit→Act→World→Prop} {md:Region.Mode} {S:World→Prop} {fin:Nat}
def zc4 (P:Program) (md:Region.Mode) (ops:Array Oper) (Q:Exit→Act→World→Prop) (S:World→Prop) (fin:Nat):Nat→Array Bool→Act→World→Prop
  | 0,listed,a,w=>Region.ready md ops listed=[]∧Q .normal a w
  | fuel + 1,listed,a,w =>
    (Region.ready md ops listed=[]→Q .normal a w) ∧
    ∀i∈Region.ready md ops listed,wpOp P ops Q i (fun a' w'=>(i≠fin→S w→S w')∧zc4 P md ops Q S fin fuel (listed.setIfInBounds i true) a' w') a w
theorem zmf:∀(fuel:Nat) (listed:Array Bool) (a:Act) (w:World),zc4 P md ops Q S fin fuel listed a w→wpAny P md ops Q fuel listed a w
 | 0,_,_,_,h=>h
 | fuel+1,_,_,_,h=>⟨h.1,fun i d=>wpOp_mono (fun a' w' c=>zmf fuel _ a' w' c.2) (h.2 i d)⟩
def ze2 (md:Region.Mode) (ops:Array Oper) (fin i:Nat):Bool:=((ops[fin]?).map fun o=>o.after.any fun e=>Region.binds md e&&e.on == i).getD false
theorem zpa{listed:Array Bool}(h:ze2 md ops fin i=true)(k:i∈Region.ready md ops listed):fin ∉ Region.ready md ops listed:=by
 intro g;obtain⟨_,o,l,c⟩:=mem_ready.1 g;have h0:=(mem_ready.1 k).1;unfold ze2 at h;rw[l]at h;simp only[Option.map_some,Option.getD_some,Array.any_eq_true',Bool.and_eq_true,beq_iff_eq]at h;obtain⟨e,f,d,rfl⟩:=h;have h1:=c e f d;rcases Nat.lt_or_ge e.on listed.size with h' | h'
 ·simp[h']at h0 h1;rw[h0]at h1;cases h1
 ·simp[Array.getElem?_eq_none h']at h1
theorem zpe{oi:Oper}(q:ops[i]? = some oi)(y:∀(j:Nat) (o:Oper) cs b,ops[j]? = some o→o.op≠.select cs b)
  (E:∀c a w,Q (.panic c) (a.put oi.dst v) w→Q (.panic c) a w) (hw:ze2 md ops fin i=true) :
  ∀(fuel:Nat) (listed:Array Bool) (a:Act) (w:World),
   (∀j f,ops[j]? = some f→j≠i→listed.getD j true=false→(∀e∈f.after,Region.binds md e=true→e.on≠i)→oi.apart ops f=true) →
   i∈Region.ready md ops listed→YieldsIf P ops S oi v a→S w →
   zc4 P md ops Q S fin fuel (listed.setIfInBounds i true) (a.put oi.dst v) w→zc4 P md ops Q S fin (fuel+1) listed a w:=by
 intro fuel
 induction fuel with
 | zero =>
  intro listed a w _ hr p hS H;refine⟨fun h=>(by rw[h]at hr;cases hr),fun j hj=>?_⟩;by_cases d:j=i
  ·subst d;exact p.wpOp q hS ⟨fun _ _=>hS,H⟩
  ·have:=ready_mono hj d;rw[H.1]at this;cases this
 | succ fuel ih =>
  intro listed a w s hr p hS H;refine⟨fun h=>(by rw[h]at hr;cases hr),fun j hj=>?_⟩;by_cases d:j=i
  ·subst d;exact p.wpOp q hS ⟨fun _ _=>hS,H⟩
  ·have h1:=H.2 j (ready_mono hj d);have t:j≠fin:=fun e=>zpa hw hr (by rw[←e];exact hj)
   obtain⟨x,f,r,G⟩:=mem_ready.1 hj;have U:∀e∈f.after,Region.binds md e=true→e.on≠i:=fun e J I K=>by
    have h1:=G e J I;have h0:=(mem_ready.1 hr).1;rw[K]at h1;rcases Nat.lt_or_ge i listed.size with h' | h'
    ·simp[h']at h0 h1;rw[h0]at h1;cases h1
    ·simp[Array.getElem?_eq_none h']at h1
   have B:=wpOp_putIf r (s j f r d x U) (fun cs b=>y i oi cs b q) (fun cs b=>y j f cs b r) E p h1
   have L:∀k g,ops[k]? = some g→k≠i→(listed.setIfInBounds j true).getD k true=false →
     (∀e∈g.after,Region.binds md e=true→e.on≠i)→oi.apart ops g=true:=fun k g hk O z R=>by
    refine s k g hk O ?_ R;by_cases u:j=k
    ·subst u;exact x
    ·rw[getD_set_ne true u]at z;exact z
   refine wpOp_mono (fun a' w' l=>⟨fun _=>l.2.1 t,ih (listed.setIfInBounds j true) a' w' L (ready_mono hr (Ne.symm d)) l.1 (l.2.1 t hS) ?_⟩) B;rw[Array.setIfInBounds_comm _ _ d];exact l.2.2
theorem zqH{oi:Oper}{listed:Array Bool}{a:Act}(d:ops[i]? = some oi)
  (hk:(Region.noSelect ops&&Region.free md ops listed i&&(Region.ready md ops listed).contains i&&ze2 md ops fin i)=true)
  (e:∀c a w,Q (.panic c) (a.put oi.dst v) w→Q (.panic c) a w) (k:YieldsIf P ops S oi v a) (hS:S w)
  (h:zc4 P md ops Q S fin fuel (listed.setIfInBounds i true) (a.put oi.dst v) w):zc4 P md ops Q S fin (fuel+1) listed a w:=by
 simp only[Bool.and_eq_true]at hk;obtain⟨⟨⟨g,f⟩,hr⟩,hw⟩:=hk;exact zpe d (Region.noSelect_spec g) e hw fuel listed a w (Region.free_spec d f) (by simpa using hr) k hS h
theorem znW{oi:Oper}(q:ops[i]? = some oi)(x:∀(j:Nat) (o:Oper) cs b,ops[j]? = some o→o.op≠.select cs b)
  (B:∀c a w,Q (.panic c) (a.put oi.dst v) w→Q (.panic c) a w) :
  ∀(fuel:Nat) (listed:Array Bool) (a:Act) (w:World),
   (∀j f,ops[j]? = some f→j≠i→listed.getD j true=false→(∀e∈f.after,Region.binds md e=true→e.on≠i)→oi.apart ops f=true) →
   i∈Region.ready md ops listed→YieldsIf P ops (fun _=>True) oi v a →
   zc4 P md ops Q S fin fuel (listed.setIfInBounds i true) (a.put oi.dst v) w→zc4 P md ops Q S fin (fuel+1) listed a w:=by
 intro fuel
 induction fuel with
 | zero =>
  intro listed a w _ hr l H;refine⟨fun h=>(by rw[h]at hr;cases hr),fun j hj=>?_⟩;by_cases d:j=i
  ·subst d;exact l.wpOp q trivial ⟨fun _ h=>h,H⟩
  ·have:=ready_mono hj d;rw[H.1]at this;cases this
 | succ fuel ih =>
  intro listed a w s hr l H;refine⟨fun h=>(by rw[h]at hr;cases hr),fun j hj=>?_⟩;by_cases d:j=i
  ·subst d;exact l.wpOp q trivial ⟨fun _ h=>h,H⟩
  ·have h1:=H.2 j (ready_mono hj d);obtain⟨u,f,r,E⟩:=mem_ready.1 hj;have R:∀e∈f.after,Region.binds md e=true→e.on≠i:=fun e I G J=>by
    have h1:=E e I G;have h0:=(mem_ready.1 hr).1;rw[J]at h1;rcases Nat.lt_or_ge i listed.size with h' | h'
    ·simp[h']at h0 h1;rw[h0]at h1;cases h1
    ·simp[Array.getElem?_eq_none h']at h1
   have z:=wpOp_putIf r (s j f r d u R) (fun cs b=>x i oi cs b q) (fun cs b=>x j f cs b r) B l h1
   have K:∀k g,ops[k]? = some g→k≠i→(listed.setIfInBounds j true).getD k true=false →
     (∀e∈g.after,Region.binds md e=true→e.on≠i)→oi.apart ops g=true:=fun k g hk L y O=>by
    refine s k g hk L ?_ O;by_cases t:j=k
    ·subst t;exact u
    ·rw[getD_set_ne true t]at y;exact y
   refine wpOp_mono (fun a' w' p=>⟨p.2.1,ih (listed.setIfInBounds j true) a' w' K (ready_mono hr (Ne.symm d)) p.1 ?_⟩) z;rw[Array.setIfInBounds_comm _ _ d];exact p.2.2
theorem zfQ{oi:Oper}{listed:Array Bool}{a:Act}(d:ops[i]? = some oi)
  (hk:(Region.noSelect ops&&Region.free md ops listed i&&(Region.ready md ops listed).contains i)=true)
  (e:∀c a w,Q (.panic c) (a.put oi.dst v) w→Q (.panic c) a w) (k:YieldsIf P ops (fun _=>True) oi v a)
  (h:zc4 P md ops Q S fin fuel (listed.setIfInBounds i true) (a.put oi.dst v) w):zc4 P md ops Q S fin (fuel+1) listed a w:=by
 simp only[Bool.and_eq_true]at hk;obtain⟨⟨g,f⟩,hr⟩:=hk;exact znW d (Region.noSelect_spec g) e fuel listed a w (Region.free_spec d f) (by simpa using hr) k h
theorem zaN(i:Nat){o:Oper}{listed:Array Bool}{a:Act}(f:ops[i]? = some o:=by rfl)(hr:Region.ready md ops listed=[i]:=by kernel_rfl)
  (h:∀c:Act→World→Prop,Shut (∀a w,S w→(S w→zc4 P md ops Q S fin fuel (listed.setIfInBounds i true) a w)→c a w)→if Region.wanted o (yielded ops a.tmps)=true then Oper.wp P o a w c Q else c (a.put o.dst undef) w) :
  zc4 P md ops Q S fin (fuel+1) listed a w :=
 ⟨fun h0=>(by rw[hr]at h0;cases h0),fun j hj=>by
  rw[hr]at hj;rcases List.mem_cons.1 hj with rfl | hj
  ·exact wpOp_step f fun c d=>h c fun a w hS e=>d a w ⟨fun _ _=>hS,e hS⟩
  ·cases hj⟩
theorem zba{o:Oper}{listed:Array Bool}{a:Act}(g:ops[fin]? = some o:=by rfl)(hr:Region.ready md ops listed=[fin]:=by kernel_rfl)
  (h:∀c:Act→World→Prop,Shut (∀a w,zc4 P md ops Q S fin fuel (listed.setIfInBounds fin true) a w→c a w)→if Region.wanted o (yielded ops a.tmps)=true then Oper.wp P o a w c Q else c (a.put o.dst undef) w) :
  zc4 P md ops Q S fin (fuel+1) listed a w :=
 ⟨fun h0=>(by rw[hr]at h0;cases h0),fun j hj=>by
  rw[hr]at hj;rcases List.mem_cons.1 hj with rfl | hj
  ·exact wpOp_step g fun c d=>h c fun a w e=>d a w ⟨fun f=>absurd rfl f,e⟩
  ·cases hj⟩
theorem za1{listed:Array Bool}{a:Act}(hr:Region.ready md ops listed=[]:=by kernel_rfl)(h:Q .normal a w):zc4 P md ops Q S fin fuel listed a w:=by
 cases fuel
 ·exact⟨hr,h⟩
 ·exact⟨fun _=>h,by rw[hr];simp⟩
theorem za2(fin:Nat){a:Act}(hm:P.follows .mixedOrders=true:=by kernel_rfl)(hS:S w.drew:=by((try go_split_ands);(try simp only[World.cell?_drew]);with_reducible repeat' first | assumption | apply And.intro | refine Proofs.YtbhfhkcdfmmmiaaGreatDoor.cell_set (by omega) ?_ | refine Proofs.YtbhfhkcdfmmmiaaGreatDoor.cell_al ?_))
  (h:S w.drew→zc4 P .any ops Q S fin ops.size (Array.replicate ops.size false) a w.drew):(Code.region id ops true).wp P Q a w :=
 wp_region_any hm (zmf _ _ _ _ (h hS))
def zcp (P:Program) (md:Region.Mode) (ops:Array Oper) (Q:Exit→Act→World→Prop) (S:World→Prop) (late:Nat→Bool):Nat→Array Bool→Act→World→Prop
  | 0,listed,a,w=>Region.ready md ops listed=[]∧Q .normal a w
  | fuel + 1,listed,a,w =>
    (Region.ready md ops listed=[]→Q .normal a w) ∧
    ∀i∈Region.ready md ops listed,wpOp P ops Q i (fun a' w'=>(late i=false→S w→S w')∧zcp P md ops Q S late fuel (listed.setIfInBounds i true) a' w') a w
theorem zmg{late:Nat→Bool}:∀(fuel:Nat) (listed:Array Bool) (a:Act) (w:World),zcp P md ops Q S late fuel listed a w→wpAny P md ops Q fuel listed a w
 | 0,_,_,_,h=>h
 | fuel+1,_,_,_,h=>⟨h.1,fun i d=>wpOp_mono (fun a' w' c=>zmg fuel _ a' w' c.2) (h.2 i d)⟩
theorem zjd{late:Nat→Bool}{oi:Oper}{f:World→Prop}(r:ops[i]? = some oi)(z:∀(j:Nat) (o:Oper) cs b,ops[j]? = some o→o.op≠.select cs b)
  (G:∀c a w,Q (.panic c) (a.put oi.dst v) w→Q (.panic c) a w) (hw:(∀j,late j=true→ze2 md ops j i=true)∧(∀w,S w→f w)∨∀w,f w) :
  ∀(fuel:Nat) (listed:Array Bool) (a:Act) (w:World),
   (∀j g,ops[j]? = some g→j≠i→listed.getD j true=false→(∀e∈g.after,Region.binds md e=true→e.on≠i)→oi.apart ops g=true) →
   i∈Region.ready md ops listed→YieldsIf P ops f oi v a→(S w∨∀w,f w) →
   zcp P md ops Q S late fuel (listed.setIfInBounds i true) (a.put oi.dst v) w→zcp P md ops Q S late (fuel+1) listed a w:=by
 have t:∀w,(S w∨∀w,f w)→f w:=fun w h=>by
  rcases h with h | h
  ·rcases hw with hw | hw
   ·exact hw.2 w h
   ·exact hw w
  ·exact h w
 intro fuel
 induction fuel with
 | zero =>
  intro listed a w _ hr q hS H;refine⟨fun h=>(by rw[h]at hr;cases hr),fun j hj=>?_⟩;by_cases d:j=i
  ·subst d;exact q.wpOp r (t w hS) ⟨fun _ h=>h,H⟩
  ·have:=ready_mono hj d;rw[H.1]at this;cases this
 | succ fuel ih =>
  intro listed a w u hr q hS H;refine⟨fun h=>(by rw[h]at hr;cases hr),fun j hj=>?_⟩;by_cases d:j=i
  ·subst d;exact q.wpOp r (t w hS) ⟨fun _ h=>h,H⟩
  ·have h1:=H.2 j (ready_mono hj d);obtain⟨y,g,s,J⟩:=mem_ready.1 hj;have W:∀e∈g.after,Region.binds md e=true→e.on≠i:=fun e L K O=>by
    have h1:=J e L K;have h0:=(mem_ready.1 hr).1;rw[O]at h1;rcases Nat.lt_or_ge i listed.size with h' | h'
    ·simp[h']at h0 h1;rw[h0]at h1;cases h1
    ·simp[Array.getElem?_eq_none h']at h1
   have E:=wpOp_putIf s (u j g s d y W) (fun cs b=>z i oi cs b r) (fun cs b=>z j g cs b s) G q h1
   have R:∀k l,ops[k]? = some l→k≠i→(listed.setIfInBounds j true).getD k true=false →
     (∀e∈l.after,Region.binds md e=true→e.on≠i)→oi.apart ops l=true:=fun k l hk U B V=>by
    refine u k l hk U ?_ V;by_cases x:j=k
    ·subst x;exact y
    ·rw[getD_set_ne true x]at B;exact B
   have I:∀w',(late j=false→S w→S w')→(S w'∨∀w,f w):=fun w' h=>by
    rcases hS with hS | hS
    ·rcases hw with hw | hw
     ·refine .inl (h ?_ hS);cases hl:late j with
      | false=>rfl
      | true=>exact absurd hj (zpa (hw.1 j hl) hr)
     ·exact .inr hw
    ·exact .inr hS
   refine wpOp_mono (fun a' w' p=>⟨p.2.1,ih (listed.setIfInBounds j true) a' w' R (ready_mono hr (Ne.symm d)) p.1 (I w' p.2.1) ?_⟩) E;rw[Array.setIfInBounds_comm _ _ d];exact p.2.2
def zrC (md:Region.Mode) (ops:Array Oper) (late:List Nat) (i:Nat):Bool:=late.all fun j=>ze2 md ops j i
theorem zqI{oi:Oper}{listed:Array Bool}{a:Act}(d:ops[i]? = some oi)
  (hk:(Region.noSelect ops&&Region.free md ops listed i&&(Region.ready md ops listed).contains i&&zrC md ops late i)=true)
  (e:∀c a w,Q (.panic c) (a.put oi.dst v) w→Q (.panic c) a w) (k:YieldsIf P ops S oi v a) (hS:S w)
  (h:zcp P md ops Q S late.contains fuel (listed.setIfInBounds i true) (a.put oi.dst v) w):zcp P md ops Q S late.contains (fuel+1) listed a w:=by
 simp only[Bool.and_eq_true]at hk;obtain⟨⟨⟨g,f⟩,hr⟩,hw⟩:=hk;exact zjd d (Region.noSelect_spec g) e (.inl ⟨fun j hj=>List.all_eq_true.1 hw j (by simpa using hj),fun _ h=>h⟩) fuel listed a w (Region.free_spec d f) (by simpa using hr) k (.inl hS) h
theorem zpf{oi:Oper}{listed:Array Bool}{a:Act}(d:ops[i]? = some oi)
  (hk:(Region.noSelect ops&&Region.free md ops listed i&&(Region.ready md ops listed).contains i)=true)
  (e:∀c a w,Q (.panic c) (a.put oi.dst v) w→Q (.panic c) a w) (k:YieldsIf P ops (fun _=>True) oi v a)
  (h:zcp P md ops Q S late.contains fuel (listed.setIfInBounds i true) (a.put oi.dst v) w):zcp P md ops Q S late.contains (fuel+1) listed a w:=by
 simp only[Bool.and_eq_true]at hk;obtain⟨⟨g,f⟩,hr⟩:=hk;exact zjd d (Region.noSelect_spec g) e (.inr fun _=>trivial) fuel listed a w (Region.free_spec d f) (by simpa using hr) k (.inr fun _=>trivial) h
theorem zaB(i:Nat){o:Oper}{listed:Array Bool}{a:Act}(f:ops[i]? = some o:=by rfl)(hr:Region.ready md ops listed=[i]:=by kernel_rfl)
  (h:∀c:Act→World→Prop,Shut (∀a w,S w→(S w→zcp P md ops Q S late.contains fuel (listed.setIfInBounds i true) a w)→c a w)→if Region.wanted o (yielded ops a.tmps)=true then Oper.wp P o a w c Q else c (a.put o.dst undef) w) :
  zcp P md ops Q S late.contains (fuel+1) listed a w :=
 ⟨fun h0=>(by rw[hr]at h0;cases h0),fun j hj=>by
  rw[hr]at hj;rcases List.mem_cons.1 hj with rfl | hj
  ·exact wpOp_step f fun c d=>h c fun a w hS e=>d a w ⟨fun _ _=>hS,e hS⟩
  ·cases hj⟩
theorem zme{j:Nat}{oi d:Oper}{listed:Array Bool}{a:Act}(l:ops[i]? = some oi)(p:ops[j]? = some d)(hr:Region.ready md ops listed=[i,j])
  (h1:∀c:Act→World→Prop,Shut (∀a w,S w→(S w→zcp P md ops Q S late.contains fuel (listed.setIfInBounds i true) a w)→c a w)→if Region.wanted oi (yielded ops a.tmps)=true then Oper.wp P oi a w c Q else c (a.put oi.dst undef) w)
  (g:∀c:Act→World→Prop,Shut (∀a w,S w→(S w→zcp P md ops Q S late.contains fuel (listed.setIfInBounds j true) a w)→c a w)→if Region.wanted d (yielded ops a.tmps)=true then Oper.wp P d a w c Q else c (a.put d.dst undef) w) :
  zcp P md ops Q S late.contains (fuel+1) listed a w :=
 ⟨fun h0=>(by rw[hr]at h0;cases h0),fun k hk=>by
  rw[hr]at hk;rcases List.mem_cons.1 hk with rfl | hk
  ·exact wpOp_step l fun c e=>h1 c fun a w hS f=>e a w ⟨fun _ _=>hS,f hS⟩
  ·rcases List.mem_cons.1 hk with rfl | hk
   ·exact wpOp_step p fun c e=>g c fun a w hS f=>e a w ⟨fun _ _=>hS,f hS⟩
   ·cases hk⟩
theorem zay(i:Nat){o:Oper}{listed:Array Bool}{a:Act}(k:ops[i]? = some o:=by rfl)(hr:Region.ready md ops listed=[i]:=by kernel_rfl)(f:late.contains i=true:=by kernel_rfl)
  (h:∀c:Act→World→Prop,Shut (∀a w,zcp P md ops Q S late.contains fuel (listed.setIfInBounds i true) a w→c a w)→if Region.wanted o (yielded ops a.tmps)=true then Oper.wp P o a w c Q else c (a.put o.dst undef) w) :
  zcp P md ops Q S late.contains (fuel+1) listed a w :=
 ⟨fun h0=>(by rw[hr]at h0;cases h0),fun j hj=>by
  rw[hr]at hj;rcases List.mem_cons.1 hj with rfl | hj
  ·exact wpOp_step k fun c d=>h c fun a w e=>d a w ⟨fun g=>absurd g (by rw[f];decide),e⟩
  ·cases hj⟩
theorem zaM{late:Nat→Bool}{listed:Array Bool}{a:Act}(hr:Region.ready md ops listed=[]:=by kernel_rfl)(h:Q .normal a w):zcp P md ops Q S late fuel listed a w:=by
 cases fuel
 ·exact⟨hr,h⟩
 ·exact⟨fun _=>h,by rw[hr];simp⟩
theorem zaS(late:List Nat){a:Act}(hm:P.follows .mixedOrders=true:=by kernel_rfl)(hS:S w.drew:=by((try go_split_ands);(try simp only[World.cell?_drew]);with_reducible repeat' first | assumption | apply And.intro | refine Proofs.YtbhfhkcdfmmmiaaGreatDoor.cell_set (by omega) ?_ | refine Proofs.YtbhfhkcdfmmmiaaGreatDoor.cell_al ?_))
  (h:S w.drew→zcp P .any ops Q S late.contains ops.size (Array.replicate ops.size false) a w.drew):(Code.region id ops true).wp P Q a w :=
 wp_region_any hm (zmg _ _ _ _ (h hS))
def tk (o:List Nat) (X:Prop):Prop:=∀n:List Nat,n=o→X
theorem zaw{X:Prop}(o:List Nat)(h:tk o X):X:=h o rfl
theorem zao{X:Prop}(h:X):tk [] X:=fun _ _=>h
section
variable {i:Nat} {o:List Nat} {oi:Oper} {v:Value} {fuel:Nat} {listed:Array Bool} {a a':Act} {w:World} {late:List Nat}
theorem tkL(g:ops[i]? = some oi:=by rfl)
  (hk:(Region.noSelect ops&&Region.free md ops listed i&&(Region.ready md ops listed).contains i&&zrC md ops late i)=true:=by kernel_rfl)
  (d:∀c a w,Q (.panic c) (a.put oi.dst v) w→Q (.panic c) a w:=by exact fun _ _ _ h=>h) (hw:Region.wanted oi (yielded ops a.tmps)=true:=by rfl) (k:∀w,S w→(execOp a.eval oi).run P w=.ok (.value v) w:=by((intro w e;(try dsimp only at e);go_simp);(try with_reducible rfl))) (f:a.put oi.dst v=a':=by first | (simp only[Act.put,pu1,pu2,pu3,pu4,pu5,pu6];rfl) | rfl) (hS:S w)
  (h:tk o (zcp P md ops Q S late.contains fuel (listed.setIfInBounds i true) a' w)):tk (i::o) (zcp P md ops Q S late.contains (fuel+1) listed a w) :=
 fun _ _=>by subst f;exact zqI g hk d (.inl ⟨hw,k⟩) hS (h _ rfl)
theorem skH(g:ops[i]? = some oi:=by rfl)(l:Region.noSelect ops=true:=by kernel_rfl)(f:Region.free md ops listed i=true:=by kernel_rfl)(hr:(Region.ready md ops listed).contains i=true:=by kernel_rfl)
  (d:∀c a w,Q (.panic c) (a.put oi.dst undef) w→Q (.panic c) a w:=by exact fun _ _ _ h=>h) (k:Region.wanted oi (yielded ops a.tmps)=false:=by kernel_rfl) (e:a.put oi.dst undef=a':=by first | (simp only[Act.put,pu1,pu2,pu3,pu4,pu5,pu6];rfl) | rfl) (hS:S w)
  (h:tk o (wpAnyH P md ops Q S fuel (listed.setIfInBounds i true) a' w)):tk (i::o) (wpAnyH P md ops Q S (fuel+1) listed a w) :=
 fun _ _=>by subst e;exact wpAnyH_take g l f hr d (.inr ⟨k,rfl⟩) hS (h _ rfl)
theorem tkX(g:ops[i]? = some oi:=by rfl)
  (hk:(Region.noSelect ops&&Region.free md ops listed i&&(Region.ready md ops listed).contains i)=true:=by kernel_rfl)
  (d:∀c a w,Q (.panic c) (a.put oi.dst v) w→Q (.panic c) a w:=by exact fun _ _ _ h=>h) (hw:Region.wanted oi (yielded ops a.tmps)=true:=by rfl) (k:∀w,True→(execOp a.eval oi).run P w=.ok (.value v) w:=by((intro w e;(try dsimp only at e);go_simp);(try with_reducible rfl))) (f:a.put oi.dst v=a':=by first | (simp only[Act.put,pu1,pu2,pu3,pu4,pu5,pu6];rfl) | rfl)
  (h:tk o (zcp P md ops Q S late.contains fuel (listed.setIfInBounds i true) a' w)):tk (i::o) (zcp P md ops Q S late.contains (fuel+1) listed a w) :=
 fun _ _=>by subst f;exact zpf g hk d (.inl ⟨hw,k⟩) (h _ rfl)
theorem tkE{fin:Nat}(g:ops[i]? = some oi:=by rfl)
  (hk:(Region.noSelect ops&&Region.free md ops listed i&&(Region.ready md ops listed).contains i&&ze2 md ops fin i)=true:=by kernel_rfl)
  (d:∀c a w,Q (.panic c) (a.put oi.dst v) w→Q (.panic c) a w:=by exact fun _ _ _ h=>h) (hw:Region.wanted oi (yielded ops a.tmps)=true:=by rfl) (k:∀w,S w→(execOp a.eval oi).run P w=.ok (.value v) w:=by((intro w e;(try dsimp only at e);go_simp);(try with_reducible rfl))) (f:a.put oi.dst v=a':=by first | (simp only[Act.put,pu1,pu2,pu3,pu4,pu5,pu6];rfl) | rfl) (hS:S w)
  (h:tk o (zc4 P md ops Q S fin fuel (listed.setIfInBounds i true) a' w)):tk (i::o) (zc4 P md ops Q S fin (fuel+1) listed a w) :=
 fun _ _=>by subst f;exact zqH g hk d (.inl ⟨hw,k⟩) hS (h _ rfl)
theorem tkH(g:ops[i]? = some oi:=by rfl)
  (hk:(Region.noSelect ops&&Region.free md ops listed i&&(Region.ready md ops listed).contains i)=true:=by kernel_rfl)
  (d:∀c a w,Q (.panic c) (a.put oi.dst v) w→Q (.panic c) a w:=by exact fun _ _ _ h=>h) (hw:Region.wanted oi (yielded ops a.tmps)=true:=by rfl) (k:∀w,S w→(execOp a.eval oi).run P w=.ok (.value v) w:=by((intro w e;(try dsimp only at e);go_simp);(try with_reducible rfl))) (f:a.put oi.dst v=a':=by first | (simp only[Act.put,pu1,pu2,pu3,pu4,pu5,pu6];rfl) | rfl) (hS:S w)
  (h:tk o (wpAnyH P md ops Q S fuel (listed.setIfInBounds i true) a' w)):tk (i::o) (wpAnyH P md ops Q S (fuel+1) listed a w):=by
 simp only[Bool.and_eq_true]at hk;subst f;exact fun _ _=>wpAnyH_take g hk.1.1 hk.1.2 hk.2 d (.inl ⟨hw,k⟩) hS (h _ rfl)
end
end
end Go
namespace Am
variable {z:List Rat}{c k n:Nat}
theorem zg6{α:Type}(xs ys:List α)(a b:α):(xs++a::ys).set xs.length b=xs++b::ys:=by
 rw[List.set_append,if_neg (by omega),Nat.sub_self];rfl
theorem zk2{α:Type}(xs ys:List α)(a:α):(xs++a::ys)[xs.length]? = some a:=by
 rw[List.getElem?_append_right (Nat.le_refl _),Nat.sub_self];rfl
def fwP (F:LUv) (b:List Rat) (k c:Nat):Rat:=el b (F.perm.getD k 0)-zai c fun i=>en F.lo k i*el (fwd F b k) i
def fwO (F:LUv) (b:List Rat) (n k:Nat):List Rat:=fwd F b k++List.replicate (n-k) 0
def fwI (F:LUv) (b:List Rat) (n k c:Nat):List Rat:=fwd F b k++fwP F b k c::List.replicate (n-(k+1)) 0
theorem zxc(F:LUv)(b:List Rat)(n:Nat):fwO F b n 0=List.replicate n 0:=by simp[fwO,fwd]
theorem zAQ(F:LUv)(b:List Rat)(n:Nat):fwO F b n n=fwd F b n:=by simp[fwO]
theorem zrw(F:LUv)(b:List Rat)(h:k<n):fwO F b n k=fwd F b k++(0::List.replicate (n-(k+1)) 0):=by
 unfold fwO;rw[show n-k=(n-(k+1))+1 by omega,List.replicate_succ]
theorem zAR(F:LUv)(b:List Rat)(h:k<n):(fwO F b n k)[k]? = some 0:=by
 have:=zk2 (fwd F b k) (List.replicate (n-(k+1)) 0) 0;rw[zcx,←zrw F b h]at this;exact this
theorem zAS(F:LUv)(b:List Rat)(h:k<n):(fwO F b n k).set k (el b (F.perm.getD k 0))=fwI F b n k 0:=by
 have:=zg6 (fwd F b k) (List.replicate (n-(k+1)) 0) 0 (el b (F.perm.getD k 0));rw[zcx,←zrw F b h]at this;rw[this];unfold fwI fwP;simp only[zai];rw[show ∀a:Rat,a-0=a by intro a;grind]
theorem zAN(F:LUv)(b:List Rat)(n k c:Nat):(fwI F b n k c)[k]? = some (fwP F b k c):=by
 have:=zk2 (fwd F b k) (List.replicate (n-(k+1)) 0) (fwP F b k c);rw[zcx]at this;exact this
theorem zAO(F:LUv)(b:List Rat){i:Nat}(h:i<k):(fwI F b n k c)[i]? = some (el (fwd F b k) i):=by
 unfold fwI;rw[List.getElem?_append_left (by rw[zcx];exact h)];exact zaH (by rw[zcx];exact h)
theorem zAP(F:LUv)(b:List Rat)(n k c:Nat):(fwI F b n k c).set k (fwP F b k c-en F.lo k c*el (fwd F b k) c)=fwI F b n k (c+1):=by
 have:=zg6 (fwd F b k) (List.replicate (n-(k+1)) 0) (fwP F b k c) (fwP F b k c-en F.lo k c*el (fwd F b k) c);rw[zcx]at this;unfold fwI;rw[this];congr 2;unfold fwP;rw[zai];grind
theorem zxb(F:LUv)(b:List Rat)(n k:Nat):fwI F b n k k=fwO F b n (k+1):=by
 unfold fwI fwO;simp only[fwd,List.append_assoc];rfl
def bwP (F:LUv) (z:List Rat) (n k j:Nat):Rat:=el z k-zai j fun c=>en F.up k (k+1+c)*el (bwd F n z (n-(k+1))) c
def bwO (F:LUv) (z:List Rat) (n k:Nat):List Rat:=z.take k++bwd F n z (n-k)
def bwI (F:LUv) (z:List Rat) (n k j:Nat):List Rat:=z.take k++bwP F z n k j::bwd F n z (n-(k+1))
theorem zzq(F:LUv)(h:z.length=n):bwO F z n n=z:=by unfold bwO;rw[Nat.sub_self,←h];simp[bwd]
theorem zwq(F:LUv)(z:List Rat)(n:Nat):bwO F z n 0=bwd F n z n:=by unfold bwO;simp
theorem zwp(F:LUv)(c:z.length=n)(h:k<n):bwI F z n k 0=bwO F z n (k+1):=by
 unfold bwI bwO bwP;rw[List.take_add_one,zaH (by omega)];simp only[zai,Option.toList_some,List.append_assoc,List.singleton_append];rw[show ∀a:Rat,a-0=a by intro a;grind]
theorem zdx(c:z.length=n)(h:k<n):(z.take k).length=k:=by rw[List.length_take];omega
theorem zzo(F:LUv)(j:Nat)(c:z.length=n)(h:k<n):(bwI F z n k j)[k]? = some (bwP F z n k j):=by
 have:=zk2 (z.take k) (bwd F n z (n-(k+1))) (bwP F z n k j);rw[zdx c h]at this;exact this
theorem zwo(F:LUv)(j:Nat)(d:z.length=n)(h:k+1+c<n):(bwI F z n k j)[k+1+c]? = some (el (bwd F n z (n-(k+1))) c):=by
 unfold bwI;rw[List.getElem?_append_right (by rw[zdx d (by omega)];omega),zdx d (by omega),show k+1+c-k=c+1 by omega,List.getElem?_cons_succ];exact zaH (by rw[zpC];omega)
theorem zzp(F:LUv)(j:Nat)(c:z.length=n)(h:k<n):(bwI F z n k j).set k (bwP F z n k j-en F.up k (k+1+j)*el (bwd F n z (n-(k+1))) j)=bwI F z n k (j+1):=by
 have:=zg6 (z.take k) (bwd F n z (n-(k+1))) (bwP F z n k j) (bwP F z n k j-en F.up k (k+1+j)*el (bwd F n z (n-(k+1))) j);rw[zdx c h]at this;unfold bwI;rw[this];congr 2;unfold bwP;rw[zai];grind
theorem zzn(F:LUv)(d:z.length=n)(h:k<n):(bwI F z n k (n-(k+1))).set k (bwP F z n k (n-(k+1))/en F.up k k)=bwO F z n k:=by
 have:=zg6 (z.take k) (bwd F n z (n-(k+1))) (bwP F z n k (n-(k+1))) (bwP F z n k (n-(k+1))/en F.up k k);rw[zdx d h]at this;unfold bwI;rw[this];unfold bwO
 congr 1
 rw[show n-k=(n-(k+1))+1 by omega];unfold bwP;show _=(el z (n-(n-(k+1)+1))-zai (n-(k+1)) (fun c=>en F.up (n-(n-(k+1)+1)) (n-(n-(k+1))+c)*el (bwd F n z (n-(k+1))) c))/en F.up (n-(n-(k+1)+1)) (n-(n-(k+1)+1))::bwd F n z (n-(k+1))
 rw[show n-(n-(k+1)+1)=k by omega,show n-(n-(k+1))=k+1 by omega]
end Am
namespace Am
variable {c z:List Rat}{k n:Nat}
def ftP (F:LUv) (c:List Rat) (k j:Nat):Rat:=el c k-zai j fun i=>en F.up i k*el (zbX F c k) i
def ftO (F:LUv) (c:List Rat) (k:Nat):List Rat:=zbX F c k++c.drop k
def ftI (F:LUv) (c:List Rat) (k j:Nat):List Rat:=zbX F c k++ftP F c k j::c.drop (k+1)
theorem zuA(h:k<c.length):c.drop k=el c k::c.drop (k+1):=by
 rw[List.drop_eq_getElem_cons h];congr 1;exact(znd (List.getElem?_eq_getElem h)).symm
theorem zxa(F:LUv)(c:List Rat):ftO F c 0=c:=by simp[ftO,zbX]
theorem zAM(F:LUv)(h:c.length=n):ftO F c n=zbX F c n:=by unfold ftO;rw[←h];simp
theorem zw9(F:LUv)(h:k<c.length):ftI F c k 0=ftO F c k:=by
 unfold ftI ftO ftP;rw[zuA h];simp only[zai];rw[show ∀a:Rat,a-0=a by intro a;grind]
theorem zAJ(F:LUv)(c:List Rat)(k j:Nat):(ftI F c k j)[k]? = some (ftP F c k j):=by
 have:=zk2 (zbX F c k) (c.drop (k+1)) (ftP F c k j);rw[zbT]at this;exact this
theorem zAK(F:LUv)(c:List Rat){j i:Nat}(h:i<k):(ftI F c k j)[i]? = some (el (zbX F c k) i):=by
 unfold ftI;rw[List.getElem?_append_left (by rw[zbT];exact h)];exact zaH (by rw[zbT];exact h)
theorem zAL(F:LUv)(c:List Rat)(k j:Nat):(ftI F c k j).set k (ftP F c k j-en F.up j k*el (zbX F c k) j)=ftI F c k (j+1):=by
 have:=zg6 (zbX F c k) (c.drop (k+1)) (ftP F c k j) (ftP F c k j-en F.up j k*el (zbX F c k) j);rw[zbT]at this;unfold ftI;rw[this];congr 2;unfold ftP;rw[zai];grind
theorem zAI(F:LUv)(c:List Rat)(k:Nat):(ftI F c k k).set k (ftP F c k k/en F.up k k)=ftO F c (k+1):=by
 have:=zg6 (zbX F c k) (c.drop (k+1)) (ftP F c k k) (ftP F c k k/en F.up k k);rw[zbT]at this;unfold ftI;rw[this];unfold ftO;simp only[zbX,List.append_assoc];rfl
def btP (F:LUv) (z:List Rat) (n k j:Nat):Rat:=el z k-zai j fun c=>en F.lo (k+1+c) k*el (zlK F n z (n-(k+1))) c
def btO (F:LUv) (z:List Rat) (n k:Nat):List Rat:=z.take k++zlK F n z (n-k)
def btI (F:LUv) (z:List Rat) (n k j:Nat):List Rat:=z.take k++btP F z n k j::zlK F n z (n-(k+1))
theorem zzm(F:LUv)(h:z.length=n):btO F z n n=z:=by unfold btO;rw[Nat.sub_self,←h];simp[zlK]
theorem zwn(F:LUv)(z:List Rat)(n:Nat):btO F z n 0=zlK F n z n:=by unfold btO;simp
theorem zwm(F:LUv)(c:z.length=n)(h:k<n):btI F z n k 0=btO F z n (k+1):=by
 unfold btI btO btP;rw[List.take_add_one,zaH (by omega)];simp only[zai,Option.toList_some,List.append_assoc,List.singleton_append];rw[show ∀a:Rat,a-0=a by intro a;grind]
theorem zzk(F:LUv)(j:Nat)(c:z.length=n)(h:k<n):(btI F z n k j)[k]? = some (btP F z n k j):=by
 have:=zk2 (z.take k) (zlK F n z (n-(k+1))) (btP F z n k j);rw[zdx c h]at this;exact this
theorem zwk(F:LUv){c:Nat}(j:Nat)(d:z.length=n)(h:k+1+c<n):(btI F z n k j)[k+1+c]? = some (el (zlK F n z (n-(k+1))) c):=by
 unfold btI;rw[List.getElem?_append_right (by rw[zdx d (by omega)];omega),zdx d (by omega),show k+1+c-k=c+1 by omega,List.getElem?_cons_succ];exact zaH (by rw[zmU];omega)
theorem zzl(F:LUv)(j:Nat)(c:z.length=n)(h:k<n):(btI F z n k j).set k (btP F z n k j-en F.lo (k+1+j) k*el (zlK F n z (n-(k+1))) j)=btI F z n k (j+1):=by
 have:=zg6 (z.take k) (zlK F n z (n-(k+1))) (btP F z n k j) (btP F z n k j-en F.lo (k+1+j) k*el (zlK F n z (n-(k+1))) j);rw[zdx c h]at this;unfold btI;rw[this];congr 2;unfold btP;rw[zai];grind
theorem zwl(F:LUv)(d:z.length=n)(h:k<n):btI F z n k (n-(k+1))=btO F z n k:=by
 unfold btI btO
 congr 1
 rw[show n-k=(n-(k+1))+1 by omega];unfold btP;show _=(el z (n-(n-(k+1)+1))-zai (n-(k+1)) (fun c=>en F.lo (n-(n-(k+1))+c) (n-(n-(k+1)+1))*el (zlK F n z (n-(k+1))) c))::zlK F n z (n-(k+1))
 rw[show n-(n-(k+1)+1)=k by omega,show n-(n-(k+1))=k+1 by omega]
