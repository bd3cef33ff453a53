/- Contracts and lemmas: Sieg. Conditions: as each says. -/
import Derived.Test.YtbhfhkcdfmmmiaaGreatEtaZr
set_option linter.all false
namespace Am
variable {n:Nat}
def ywc:Nat→(Nat→Nat)→Nat
  | 0,_=>0
  | n+1,f=>ywc n f+f n
theorem ywg{f:Nat→Nat}{k:Nat}:∀ {n:Nat},(∀i,i<n→f i≤k)→ywc n f≤n*k
 | 0,_=>by simp[ywc]
 | n+1,h=>by
  have h1:=ywg (n:=n) (fun i b=>h i (by omega));have a:=h n (by omega);rw[ywc,Nat.add_mul];omega
theorem yv4(f:Nat→Nat):∀n:Nat,((ywc n f:Nat):Rat)=zai n fun i=>(f i:Rat)
 | 0=>rfl
 | n+1=>by rw[ywc,zai,←yv4 f n];exact Rat.natCast_add _ _
def ywk (k:Nat):Nat→List (List Nat)
  | 0=>[[]]
  | n+1=>(List.range (k+1)).flatMap fun x=>(ywk k n).map (x :: ·)
theorem ywe(k:Nat):∀n,(ywk k n).length=(k+1)^n
 | 0=>rfl
 | n+1=>by
  have:∀m,((List.range m).flatMap fun x=>(ywk k n).map (x :: ·)).length=m*(k+1)^n:=fun m=>by
   induction m with
   | zero=>simp
   | succ m ih=>rw[List.range_succ,List.flatMap_append,List.length_append,ih];simp[ywe k n,Nat.add_mul]
  unfold ywk;rw[this,Nat.pow_succ,Nat.mul_comm]
theorem ywf{k:Nat}:∀ {n:Nat} {l:List Nat},l.length=n→(∀x∈l,x≤k)→l∈ywk k n
 | 0,l,h,_=>by rw[List.length_eq_zero_iff.1 h];simp[ywk]
 | n+1,[],h,_=>by cases h
 | n+1,x::l,h,hx=>by
  unfold ywk;exact List.mem_flatMap.2 ⟨x,List.mem_range.2 (by have:=hx x (List.mem_cons_self ..);omega),List.mem_map.2 ⟨l,ywf (by simpa using h) fun y a=>hx y (List.mem_cons_of_mem _ a),rfl⟩⟩
theorem yv3{q:Nat}:∀ {n a b:Nat},a<q^n→b<q^n→(∀j,j<n→a/q^j%q=b/q^j%q)→a=b
 | 0,a,b,ha,hb,_=>by simp at ha hb;omega
 | n+1,a,b,ha,hb,h=>by
  have h0:=h 0 (by omega);rw[Nat.pow_zero,Nat.div_one,Nat.div_one]at h0;rw[Nat.pow_succ]at ha hb;have e:=yv3 (q:=q) (n:=n) (a:=a/q) (b:=b/q) (Nat.div_lt_of_lt_mul (by rw[Nat.mul_comm];exact ha)) (Nat.div_lt_of_lt_mul (by rw[Nat.mul_comm];exact hb)) fun j hj=>by
   have:=h (j+1) (by omega);rw[Nat.pow_succ,Nat.mul_comm,←Nat.div_div_eq_div_mul,←Nat.div_div_eq_div_mul]at this;exact this
  rw[←Nat.div_add_mod a q,←Nat.div_add_mod b q,e,h0]
def sgB (n H:Nat):Nat:=((n+1)*H)^n
theorem siegel{H:Nat}{P Q:Nat→Nat→Nat}(A:∀i,i<n→∀j,j<n+1→P i j+Q i j≤H)(h1:1≤H):∃u v:Nat→Nat,(∀j,u j≤sgB n H∧v j≤sgB n H)∧(∃j,j<n+1∧u j≠v j) ∧
  ∀i,i<n→zai (n+1) (fun j=>((P i j:Rat)-(Q i j:Rat))*((u j:Rat)-(v j:Rat)))=0:=by
 generalize hB:sgB n H=B;have L:1≤(n+1)*H:=Nat.mul_pos (by omega) h1;let f:Nat→Nat→Nat:=fun a j=>a/(B+1)^j%(B+1)
 have dl:∀a j,f a j≤B:=fun a j=>Nat.le_of_lt_succ (Nat.mod_lt _ (by omega))
 let k:Nat→Nat→Nat:=fun a i=>ywc (n+1) fun j=>P i j*f a j+Q i j*(B-f a j)
 have F:∀a i,i<n→k a i≤(n+1)*(H*B):=fun a i g=>ywg fun j hj=>by
  have m:=A i g j hj;have J:P i j*f a j≤P i j*B:=Nat.mul_le_mul_left _ (dl a j);have K:Q i j*(B-f a j)≤Q i j*B:=Nat.mul_le_mul_left _ (Nat.sub_le _ _);have z:(P i j+Q i j)*B≤H*B:=Nat.mul_le_mul_right _ m;rw[Nat.add_mul]at z;omega
 have G:∃a b,a<b∧b<(B+1)^(n+1)∧∀i,i<n→k a i=k b i:=by
  refine Classical.byContradiction fun p=>?_
  have r:=pigeon (ywk ((n+1)*(H*B)) n) ((B+1)^(n+1)) (fun a=>(List.range n).map (k a)) (fun a _=>ywf (by simp) fun x E=>by
   obtain⟨i,g,rfl⟩:=List.mem_map.1 E;exact F a i (List.mem_range.1 g)) fun a b s o e=>p ⟨a,b,s,o,fun i g=>by
    have:=congrArg (fun l:List Nat=>l[i]?) e;simpa[List.getElem?_map,List.getElem?_range g]using this⟩
  rw[ywe]at r;have t:(n+1)*(H*B)+1≤(n+1)*H*(B+1):=by rw[Nat.mul_add,Nat.mul_assoc];omega
  have y:((n+1)*(H*B)+1)^n≤((n+1)*H*(B+1))^n:=Nat.pow_le_pow_left t n;rw[Nat.mul_pow,show((n+1)*H)^n=B from hB]at y;rw[Nat.pow_succ]at r;have I:0<(B+1)^n:=Nat.pow_pos (by omega);generalize (B+1)^n=X at *
  rw[Nat.mul_add,Nat.mul_one,Nat.mul_comm X B]at r;omega
 obtain⟨a,b,s,o,C⟩:=G;refine⟨f a,f b,fun j=>⟨dl a j,dl b j⟩,?_,fun i g=>?_⟩
 ·refine Classical.byContradiction fun p=>?_
  have:=yv3 (q:=B+1) (n:=n+1) (a:=a) (b:=b) (by omega) o fun j hj=>Classical.byContradiction fun h=>p ⟨j,hj,h⟩
  omega
 ·have e:=congrArg (fun x:Nat=>(x:Rat)) (C i g);have c:∀a,((k a i:Nat):Rat)=zai (n+1) (fun j=>((P i j:Rat)-(Q i j:Rat))*(f a j:Rat))+zai (n+1) fun j=>(Q i j:Rat)*(B:Rat):=fun a=>by
   rw[←zcm];refine(yv4 _ _).trans (zaj fun j _=>?_);have D:((B-f a j:Nat):Rat)=(B:Rat)-(f a j:Rat):=by
    have:=dl a j;have m:((B-f a j+f a j:Nat):Rat)=(B:Rat):=by rw[Nat.sub_add_cancel this]
    rw[Rat.natCast_add]at m;grind
   rw[Rat.natCast_add,Rat.natCast_mul,Rat.natCast_mul,D];grind
  rw[c a,c b]at e;have d:zai (n+1) (fun j=>((P i j:Rat)-(Q i j:Rat))*((f a j:Rat)-(f b j:Rat)))=zai (n+1) (fun j=>((P i j:Rat)-(Q i j:Rat))*(f a j:Rat))+(-1)*zai (n+1) (fun j=>((P i j:Rat)-(Q i j:Rat))*(f b j:Rat)):=by
   rw[←za7,←zcm];exact zaj fun j _=>by grind
  rw[d];grind
def yv2:Nat→(Nat→Nat)→Nat
  | 0,_=>1
  | n+1,f=>yv2 n f*f n
theorem ywa{f:Nat→Nat}{T:Nat}:∀ {n:Nat},(∀i,i<n→f i≤T)→yv2 n f≤T^n
 | 0,_=>by simp[yv2]
 | n+1,h=>by rw[yv2,Nat.pow_succ];exact Nat.mul_le_mul (ywa fun i a=>h i (by omega)) (h n (by omega))
theorem yv6{f:Nat→Nat}:∀ {n:Nat},(∀i,i<n→1≤f i)→1≤yv2 n f
 | 0,_=>Nat.le_refl _
 | n+1,h=>Nat.mul_pos (yv6 fun i a=>h i (by omega)) (h n (by omega))
theorem yv5{f:Nat→Nat}{j:Nat}:∀ {n:Nat},j<n→f j∣yv2 n f
 | 0,h=>absurd h (Nat.not_lt_zero _)
 | n+1,h=>by
  rw[yv2];by_cases e:j=n
  ·rw[e];exact Nat.dvd_mul_left _ _
  ·exact Nat.dvd_trans (yv5 (by omega)) (Nat.dvd_mul_right _ _)
theorem yv9(z:Int):((z.toNat:Rat)-((-z).toNat:Rat))=(z:Rat)∧z.toNat+(-z).toNat=z.natAbs:=by
 refine⟨?_,by omega⟩;have h:z=(z.toNat:Int)-((-z).toNat:Int):=by omega
 have a:(z:Rat)=((z.toNat:Int):Rat)-(((-z).toNat:Int):Rat):=by rw[←Rat.intCast_sub,←h]
 rw[a];rfl
theorem ywd(q:Rat):((q.num:Int):Rat)=q*((q.den:Nat):Rat):=by
 have h:=Rat.num_divInt_den q;rw[Rat.divInt_eq_div]at h;have dn:(((q.den:Nat):Int):Rat)≠0:=fun e=>q.den_nz (by exact_mod_cast e)
 have e:=Rat.div_mul_cancel (a:=((q.num:Int):Rat)) dn;rw[h]at e;exact e.symm
theorem cramer{T:Nat}{M:Nat→Nat→Rat}{b x:Nat→Rat}(h1:1≤T)(hr:∀y:Nat→Rat,(∀i,i<n→zai n (fun j=>M i j*y j)=0)→∀j,j<n→y j=0)(Z:∀i,i<n→∀j,j<n→(M i j).num.natAbs≤T∧(M i j).den≤T)(zb:∀i,i<n→(b i).num.natAbs≤T∧(b i).den≤T)
  (U:∀i,i<n→zai n (fun j=>M i j*x j)=b i):∀j,j<n→∃p q:Int,q≠0∧x j=Rat.divInt p q∧p.natAbs≤sgB n (T^(n+2))∧q.natAbs≤sgB n (T^(n+2)):=by
 -- the numbers' row and what it makes,as one row
 let a:Nat→Nat→Rat:=fun i j=>if j<n then M i j else -b i
 have F:∀i,i<n→∀j,j<n+1→(a i j).num.natAbs≤T∧(a i j).den≤T:=fun i g j hj=>by
  show(if j<n then M i j else -b i).num.natAbs≤T∧(if j<n then M i j else -b i).den≤T
  by_cases h:j<n
  ·rw[if_pos h];exact Z i g j h
  ·rw[if_neg h,Rat.neg_num,Rat.neg_den,Int.natAbs_neg];exact zb i g
 obtain⟨D,o⟩:∃D:Nat→Nat,∀i,D i=yv2 (n+1) fun j=>(a i j).den:=⟨_,fun _=>rfl⟩
 have L:∀i,i<n→D i≤T^(n+1):=fun i g=>by rw[o];exact ywa fun j hj=>(F i g j hj).2
 have K:∀i,1≤D i:=fun i=>by rw[o];exact yv6 fun j _=>Nat.pos_of_ne_zero (a i j).den_nz
 obtain⟨z,E⟩:∃z:Nat→Nat→Int,∀i j,z i j=(a i j).num*((D i/(a i j).den:Nat):Int):=⟨_,fun _ _=>rfl⟩
 have W:∀i j,j<n+1→((z i j:Int):Rat)=(D i:Rat)*a i j:=fun i j hj=>by
  obtain⟨c,hc⟩:=(yv5 (f:=fun j=>(a i j).den) hj)
  rw[←o i]at hc;have p:0<(a i j).den:=Nat.pos_of_ne_zero (a i j).den_nz;have e:D i/(a i j).den=c:=by rw[hc];exact Nat.mul_div_cancel_left _ p
  rw[E,e,Rat.intCast_mul];have X:((a i j).num:Rat)=a i j*((a i j).den:Rat):=ywd (a i j);have O:(D i:Rat)=((a i j).den:Rat)*(c:Rat):=by rw[hc];exact Rat.natCast_mul _ _
  rw[O,X];show a i j*((a i j).den:Rat)*(c:Rat)=_
  grind
 have Y:∀i,i<n→∀j,j<n+1→(z i j).natAbs≤T^(n+2):=fun i g j hj=>by
  rw[E,Int.natAbs_mul,Int.natAbs_natCast,Nat.pow_succ (m:=n+1),Nat.mul_comm];exact Nat.mul_le_mul (Nat.le_trans (Nat.div_le_self _ _) (L i g)) (F i g j hj).1
 obtain⟨u,v,C,⟨k,ab,S⟩,R⟩:=siegel (n:=n) (H:=T^(n+2)) (P:=fun i j=>(z i j).toNat) (Q:=fun i j=>(-z i j).toNat) (fun i g j hj=>by rw[(yv9 _).2];exact Y i g j hj) (Nat.pow_pos h1);obtain⟨d,r⟩:∃d:Nat→Rat,∀j,d j=(u j:Rat)-(v j:Rat):=⟨_,fun _=>rfl⟩
 have A:∀i,i<n→zai n (fun j=>M i j*d j)=b i*d n:=fun i g=>by
  have e:=R i g;have G:zai (n+1) (fun j=>(((z i j).toNat:Rat)-((-z i j).toNat:Rat))*((u j:Rat)-(v j:Rat)))=(D i:Rat)*zai (n+1) (fun j=>a i j*d j):=by
   rw[←za7];exact zaj fun j hj=>by rw[(yv9 _).1,W i j hj,r];grind
  rw[G]at e;have N:(D i:Rat)≠0:=fun h=>by
   have h1:=K i;have t:D i=0:=by exact_mod_cast h
   omega
  have s:zai (n+1) (fun j=>a i j*d j)=0:=by
   rcases Rat.mul_eq_zero.1 e with h | h
   ·exact absurd h N
   ·exact h
  rw[zai]at s;have I:zai n (fun j=>a i j*d j)=zai n fun j=>M i j*d j:=zaj fun j hj=>by show(if j<n then M i j else -b i)*d j=_;rw[if_pos hj]
  have J:a i n = -b i:=if_neg (Nat.lt_irrefl n);rw[I,J]at s;grind
 have B:d n≠0:=fun h0=>by
  have zz:=hr d fun i g=>by rw[A i g,h0];grind
  have h1:d k=0:=by
   by_cases e:k=n
   ·rw[e];exact h0
   ·exact zz k (by omega)
  rw[r]at h1;exact S (by have t:(u k:Rat)=(v k:Rat):=(by grind);exact_mod_cast t)
 intro j hj;have V:x j*d n=d j:=by
  have:=hr (fun j=>x j*d n-d j) (fun i g=>by
   have e:zai n (fun j=>M i j*(x j*d n-d j))=zai n (fun j=>M i j*x j)*d n+(-1)*zai n (fun j=>M i j*d j):=by
    rw[←zb6,←za7,←zcm];exact zaj fun j _=>by grind
   rw[e,U i g,A i g];grind) j hj
  grind
 have l:∀j,d j=(((u j:Int)-(v j:Int):Int):Rat):=fun j=>by rw[r,Rat.intCast_sub];rfl
 refine⟨(u j:Int)-(v j:Int),(u n:Int)-(v n:Int),fun h=>B (by rw[l,h];rfl),?_,by have:=C j;omega,by have:=C n;omega⟩;rw[Rat.divInt_eq_div,←l,←l,←V];exact(Rat.mul_div_cancel B).symm
