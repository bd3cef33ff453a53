/- Contracts and lemmas: Sieg. Conditions: as each says. -/
import Derived.Test.YtbhfhkcdfmmmiaaGreatEtaZj
set_option linter.all false
namespace Am
variable {n:Nat}
def ywc:Nat→(Nat→Nat)→Nat
  | 0,_=>0
  | n+1,f=>ywc n f+f n
theorem ywg{f:Nat→Nat}{k:Nat}:∀ {n:Nat},(∀i,i<n→f i≤k)→ywc n f≤n*k
 | 0,_=>by simp[ywc]
 | n+1,h=>by
  have h1:=ywg (n:=n) (fun i hi=>h i (by omega));have a:=h n (by omega);rw[ywc,Xe];omega
theorem yv4(f:Nat→Nat):∀n:Nat,((ywc n f:Nat):Rat)=zai n fun i=>(f i:Rat)
 | 0=>rfl
 | n+1=>by rw[ywc,zai,←yv4 f n];grind
def ywk (k:Nat):Nat→List (List Nat)
  | 0=>[[]]
  | n+1=>(List.range (k+1)).flatMap fun x=>(ywk k n).map (x :: ·)
theorem ywe(k:Nat):∀n,(ywk k n).length=(k+1)^n
 | 0=>rfl
 | n+1=>by
  have:∀m,((List.range m).flatMap fun x=>(ywk k n).map (x :: ·)).length=m*(k+1)^n:=fun m=>by
   induction m with
   | zero=>simp
   | succ m ih=>rw[X8,List.flatMap_append,Zj,ih];simp[ywe,Xe]
  unfold ywk;rw[this,ZS,Zp]
theorem ywf{k:Nat}:∀ {n:Nat} {l:List Nat},l.length=n→(∀x∈l,x≤k)→l∈ywk k n
 | 0,l,h,_=>by rw[Xl.1 h];simp[ywk]
 | n+1,[],h,_=>by cases h
 | n+1,x::l,h,hx=>by
  unfold ywk;exact List.mem_flatMap.2 ⟨x,Xa.2 (by have:=hx x (List.mem_cons_self ..);omega),Zq.2 ⟨l,ywf (by grind) fun y a=>hx y (List.mem_cons_of_mem _ a),rfl⟩⟩
theorem yv3{q:Nat}:∀ {n a b:Nat},a<q^n→b<q^n→(∀j,j<n→a/q^j%q=b/q^j%q)→a=b
 | 0,a,b,ha,hb,_=>by grind
 | n+1,a,b,ha,hb,h=>by
  have h0:=h 0 (by omega);rw[Nat.pow_zero,Ym,Ym]at h0;rw[ZS]at ha hb;have e:=yv3 (q:=q) (n:=n) (a:=a/q) (b:=b/q) (Nat.div_lt_of_lt_mul (by rw[Zp];exact ha)) (Nat.div_lt_of_lt_mul (by rw[Zp];exact hb)) fun j hj=>by
   have:=h (j+1) (by omega);rw[ZS,Zp,←XM,←XM]at this;exact this
  rw[←Z5 a q,←Z5 b q,e,h0]
def sgB (n H:Nat):Nat:=((n+1)*H)^n
theorem siegel{H:Nat}{P Q:Nat→Nat→Nat}(z:∀i,i<n→∀j,j<n+1→P i j+Q i j≤H)(h1:1≤H):∃u v:Nat→Nat,(∀j,u j≤sgB n H∧v j≤sgB n H)∧(∃j,j<n+1∧u j≠v j) ∧
  ∀i,i<n→zai (n+1) (fun j=>((P i j:Rat)-(Q i j:Rat))*((u j:Rat)-(v j:Rat)))=0:=by
 generalize hB:sgB n H=B;have K:1≤(n+1)*H:=Yr (by omega) h1;let f:Nat→Nat→Nat:=fun a j=>a/(B+1)^j%(B+1)
 have dl:∀a j,f a j≤B:=fun a j=>Nat.le_of_lt_succ (Zv _ (by omega))
 let g:Nat→Nat→Nat:=fun a i=>ywc (n+1) fun j=>P i j*f a j+Q i j*(B-f a j)
 have E:∀a i,i<n→g a i≤(n+1)*(H*B):=fun a i hi=>ywg fun j hj=>by
  have k:=z i hi j hj;have I:P i j*f a j≤P i j*B:=Z1 _ (dl a j);have J:Q i j*(B-f a j)≤Q i j*B:=Z1 _ (Nat.sub_le _ _);have y:(P i j+Q i j)*B≤H*B:=Zt _ k;rw[Xe]at y;omega
 have F:∃a b,a<b∧b<(B+1)^(n+1)∧∀i,i<n→g a i=g b i:=by
  refine YA fun o=>?_
  have p:=pigeon (ywk ((n+1)*(H*B)) n) ((B+1)^(n+1)) (fun a=>(List.range n).map (g a)) (fun a _=>ywf (by simp) fun x D=>by
   obtain⟨i,hi,rfl⟩:=Zq.1 D;exact E a i (Xa.1 hi)) fun a b r m e=>o ⟨a,b,r,m,fun i hi=>by
    have:=congrArg (fun l:List Nat=>l[i]?) e;simpa[Zw,Z4 hi]using this⟩
  rw[ywe]at p;have s:(n+1)*(H*B)+1≤(n+1)*H*(B+1):=by rw[Xu,XD];omega
  have t:((n+1)*(H*B)+1)^n≤((n+1)*H*(B+1))^n:=Nat.pow_le_pow_left s n;rw[Nat.mul_pow,show((n+1)*H)^n=B from hB]at t;rw[ZS]at p;have G:0<(B+1)^n:=Zx (by omega);grind
 obtain⟨a,b,r,m,A⟩:=F;refine⟨f a,f b,fun j=>⟨dl a j,dl b j⟩,?_,fun i hi=>?_⟩
 ·refine YA fun o=>?_
  have:=yv3 (q:=B+1) (n:=n+1) (a:=a) (b:=b) (by omega) m fun j hj=>YA fun h=>o ⟨j,hj,h⟩
  omega
 ·have e:=congrArg (fun x:Nat=>(x:Rat)) (A i hi);have c:∀a,((g a i:Nat):Rat)=zai (n+1) (fun j=>((P i j:Rat)-(Q i j:Rat))*(f a j:Rat))+zai (n+1) fun j=>(Q i j:Rat)*(B:Rat):=fun a=>by
   rw[←zcm];refine(yv4 _ _).trans (zaj fun j _=>?_);have C:((B-f a j:Nat):Rat)=(B:Rat)-(f a j:Rat):=by
    have:=dl a j;have k:((B-f a j+f a j:Nat):Rat)=(B:Rat):=by rw[Nat.sub_add_cancel this]
    rw[Rat.natCast_add]at k;grind
   rw[Rat.natCast_add,Y0,Y0,C];grind
  rw[c a,c b]at e;have d:zai (n+1) (fun j=>((P i j:Rat)-(Q i j:Rat))*((f a j:Rat)-(f b j:Rat)))=zai (n+1) (fun j=>((P i j:Rat)-(Q i j:Rat))*(f a j:Rat))+(-1)*zai (n+1) (fun j=>((P i j:Rat)-(Q i j:Rat))*(f b j:Rat)):=by
   rw[←za7,←zcm];grind
  rw[d];grind
def yv2:Nat→(Nat→Nat)→Nat
  | 0,_=>1
  | n+1,f=>yv2 n f*f n
theorem ywa{f:Nat→Nat}{T:Nat}:∀ {n:Nat},(∀i,i<n→f i≤T)→yv2 n f≤T^n
 | 0,_=>by simp[yv2]
 | n+1,h=>by rw[yv2,ZS];exact Xm (ywa fun i hi=>h i (by omega)) (h n (by omega))
theorem yv6{f:Nat→Nat}:∀ {n:Nat},(∀i,i<n→1≤f i)→1≤yv2 n f
 | 0,_=>Za _
 | n+1,h=>Yr (yv6 fun i hi=>h i (by omega)) (h n (by omega))
theorem yv5{f:Nat→Nat}{j:Nat}:∀ {n:Nat},j<n→f j∣yv2 n f
 | 0,h=>absurd h (ZK _)
 | n+1,h=>by
  rw[yv2];by_cases e:j=n
  ·rw[e];simp[YT]
  ·exact Nat.dvd_trans (yv5 (by omega)) (Nat.dvd_mul_right _ _)
theorem yv9(z:Int):((z.toNat:Rat)-((-z).toNat:Rat))=(z:Rat)∧z.toNat+(-z).toNat=z.natAbs:=by
 refine⟨?_,by omega⟩;have h:z=(z.toNat:Int)-((-z).toNat:Int):=by omega
 have a:(z:Rat)=((z.toNat:Int):Rat)-(((-z).toNat:Int):Rat):=by rw[←Rat.intCast_sub,←h]
 rw[a];rfl
theorem ywd(q:Rat):((q.num:Int):Rat)=q*((q.den:Nat):Rat):=by
 have h:=Rat.num_divInt_den q;rw[Rat.divInt_eq_div]at h;have dn:(((q.den:Nat):Int):Rat)≠0:=fun e=>q.den_nz (by simp_all)
 have e:=Yw (a:=((q.num:Int):Rat)) dn;rw[h]at e;exact e.symm
theorem cramer{T:Nat}{M:Nat→Nat→Rat}{b x:Nat→Rat}(h1:1≤T)(hr:∀y:Nat→Rat,(∀i,i<n→zai n (fun j=>M i j*y j)=0)→∀j,j<n→y j=0)(Y:∀i,i<n→∀j,j<n→(M i j).num.natAbs≤T∧(M i j).den≤T)(zb:∀i,i<n→(b i).num.natAbs≤T∧(b i).den≤T)
  (S:∀i,i<n→zai n (fun j=>M i j*x j)=b i):∀j,j<n→∃p q:Int,q≠0∧x j=Rat.divInt p q∧p.natAbs≤sgB n (T^(n+2))∧q.natAbs≤sgB n (T^(n+2)):=by
 -- the numbers' row and what it makes,as one row
 let a:Nat→Nat→Rat:=fun i j=>if j<n then M i j else -b i
 have E:∀i,i<n→∀j,j<n+1→(a i j).num.natAbs≤T∧(a i j).den≤T:=fun i hi j hj=>by
  show(if j<n then M i j else -b i).num.natAbs≤T∧(if j<n then M i j else -b i).den≤T
  by_cases h:j<n
  ·rw[if_pos h];exact Y i hi j h
  ·rw[if_neg h,Yu,Rat.neg_den,YY];exact zb i hi
 obtain⟨D,l⟩:∃D:Nat→Nat,∀i,D i=yv2 (n+1) fun j=>(a i j).den:=⟨_,fun _=>rfl⟩
 have K:∀i,i<n→D i≤T^(n+1):=fun i hi=>by rw[l];exact ywa fun j hj=>(E i hi j hj).2
 have J:∀i,1≤D i:=fun i=>by rw[l];exact yv6 fun j _=>XV (a i j).den_nz
 obtain⟨z,C⟩:∃z:Nat→Nat→Int,∀i j,z i j=(a i j).num*((D i/(a i j).den:Nat):Int):=⟨_,fun _ _=>rfl⟩
 have V:∀i j,j<n+1→((z i j:Int):Rat)=(D i:Rat)*a i j:=fun i j hj=>by
  obtain⟨c,hc⟩:=(yv5 (f:=fun j=>(a i j).den) hj)
  rw[←l i]at hc;have p:0<(a i j).den:=XV (a i j).den_nz;have e:D i/(a i j).den=c:=by rw[hc];exact Nat.mul_div_cancel_left _ p
  rw[C,e,Rat.intCast_mul];have W:((a i j).num:Rat)=a i j*((a i j).den:Rat):=ywd (a i j);have N:(D i:Rat)=((a i j).den:Rat)*(c:Rat):=by rw[hc];exact Y0 _ _
  rw[N,W];show a i j*((a i j).den:Rat)*(c:Rat)=_
  grind
 have X:∀i,i<n→∀j,j<n+1→(z i j).natAbs≤T^(n+2):=fun i hi j hj=>by
  rw[C,YX,Xj,ZS (m:=n+1),Zp];exact Xm (Zc (XO _ _) (K i hi)) (E i hi j hj).1
 obtain⟨u,v,B,⟨g,Z,R⟩,O⟩:=siegel (n:=n) (H:=T^(n+2)) (P:=fun i j=>(z i j).toNat) (Q:=fun i j=>(-z i j).toNat) (fun i hi j hj=>by rw[(yv9 _).2];exact X i hi j hj) (Zx h1);obtain⟨d,o⟩:∃d:Nat→Rat,∀j,d j=(u j:Rat)-(v j:Rat):=⟨_,fun _=>rfl⟩
 have t:∀i,i<n→zai n (fun j=>M i j*d j)=b i*d n:=fun i hi=>by
  have e:=O i hi;have F:zai (n+1) (fun j=>(((z i j).toNat:Rat)-((-z i j).toNat:Rat))*((u j:Rat)-(v j:Rat)))=(D i:Rat)*zai (n+1) (fun j=>a i j*d j):=by
   rw[←za7];exact zaj fun j hj=>by rw[(yv9 _).1,V i j hj,o];grind
  rw[F]at e;have L:(D i:Rat)≠0:=fun h=>by
   have h1:=J i;have s:D i=0:=by exact_mod_cast h
   omega
  have r:zai (n+1) (fun j=>a i j*d j)=0:=by
   rcases Rat.mul_eq_zero.1 e with h | h
   ·exact absurd h L
   ·exact h
  rw[zai]at r;have G:zai n (fun j=>a i j*d j)=zai n fun j=>M i j*d j:=zaj fun j hj=>by show(if j<n then M i j else -b i)*d j=_;rw[if_pos hj]
  have I:a i n = -b i:=if_neg (Xt n);rw[G,I]at r;grind
 have A:d n≠0:=fun h0=>by
  have zz:=hr d fun i hi=>by rw[t i hi,h0];grind
  have h1:d g=0:=by
   by_cases e:g=n
   ·rw[e];exact h0
   ·exact zz g (by omega)
  rw[o]at h1;exact R (by have s:(u g:Rat)=(v g:Rat):=(by grind);exact_mod_cast s)
 intro j hj;have U:x j*d n=d j:=by
  have:=hr (fun j=>x j*d n-d j) (fun i hi=>by
   have e:zai n (fun j=>M i j*(x j*d n-d j))=zai n (fun j=>M i j*x j)*d n+(-1)*zai n (fun j=>M i j*d j):=by
    rw[←zb6,←za7,←zcm];exact zaj fun j _=>by grind
   rw[e,S i hi,t i hi];grind) j hj
  grind
 have k:∀j,d j=(((u j:Int)-(v j:Int):Int):Rat):=fun j=>by rw[o,Rat.intCast_sub];rfl
 refine⟨(u j:Int)-(v j:Int),(u n:Int)-(v n:Int),fun h=>A (by rw[k,h];rfl),?_,by have:=B j;omega,by have:=B n;omega⟩;rw[Rat.divInt_eq_div,←k,←k,←U];grind
