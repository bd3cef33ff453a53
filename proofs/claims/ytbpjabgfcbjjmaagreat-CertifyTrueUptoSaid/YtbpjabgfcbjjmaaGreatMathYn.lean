set_option linter.all false
/- Contracts and lemmas: Math. Conditions: as each says. -/
def ω{P:Prop}(h:P:=by omega):P:=h
def δ{P:Prop}(h:P:=by decide):P:=h
def σ{P:Prop}(h:P:=by simp):P:=h
def ψ{P:Prop}(h:P:=by grind):P:=h
def Za:=@Nat.le_refl
def Zb:=@Nat.zero_le
def Ze:=@List.getElem?_eq_getElem
def Zf:=@Nat.le_trans
def Zg:=@Int.natCast_nonneg
def Zh:=@List.getD_eq_getElem?_getD
def Zj:=@List.mem_of_getElem?
def Zz:=@List.length_append
def ZF:=@List.getElem?_eq_some_iff
def ZG:=@decide_eq_true
def ZH:=@List.mem_map
def ZI:=@List.length_take
def ZJ:=@decide_eq_false
def ZK:=@List.length_map
def ZM:=@Nat.lt_or_ge
def ZN:=@List.getElem?_append_right
def ZO:=@Nat.mul_comm
def ZQ:=@List.length_replicate
def ZS:=@Nat.not_lt_zero
def ZT:=@List.mem_append
def ZU:=@Array.getElem?_eq_some_iff
def ZV:=@Nat.mul_le_mul_right
def ZW:=@List.length_set
def Z0:=@Nat.mod_lt
def Z1:=@List.getElem?_map
def Z2:=@List.take_of_length_le
def Z3:=@Nat.pow_pos
def Z4:=@List.getElem?_append_left
def Z5:=@Bool.and_eq_true
def Z6:=@Ne.symm
def Z8:=@List.getElem?_cons_zero
def Z9:=@List.getElem?_replicate
def Xa:=@Rat.div_def
def Xb:=@List.mem_range
def Xc:=@Nat.zero_add
def Xd:=@List.getElem?_toArray
def Xe:=@List.take_add_one
def Xf:=@List.ext_getElem?
def Xg:=@Nat.pow_succ
def Xh:=@List.mem_iff_getElem?
def Xk:=@List.getElem_mem
def Xl:=@List.getElem?_eq_none
def Xm:=@Nat.le_of_lt
def Xo:=@List.length_eq_zero_iff
def Xp:=@Nat.mul_le_mul_left
def Xq:=@Nat.pow_le_pow_right
def Xr:=@Nat.mul_le_mul
def Xt:=@Rat.mul_nonneg
def Xu:=@Nat.div_add_mod
def Xv:=@Nat.div_lt_iff_lt_mul
def Xx:=@of_decide_eq_true
def Xy:=@List.getElem?_set
def Xz:=@Nat.sub_self
def XA:=@Nat.pow_add
def XB:=@Nat.mul_one
def XD:=@Nat.min_eq_left
def XE:=@Nat.add_mul
def XF:=@List.mem_singleton
def XG:=@Rat.le_refl
def XH:=@List.getElem?_range
def XI:=@List.mem_cons
def XJ:=@List.getElem?_cons_succ
def XK:=@List.drop_eq_nil_of_le
def XL:=@List.take_length
def XM:=@Nat.lt_trichotomy
def XN:=@Int.natAbs_natCast
def XO:=@List.all_eq_true
def XP:=@Rat.not_lt
def XQ:=@Int.natCast_mul
def XR:=@Nat.lt_of_le_of_lt
def XS:=@Int.natCast_ediv
def XT:=@List.append_nil
def XU:=@List.append_assoc
def XV:=@Bool.false_eq_true
def XX:=@Nat.mul_add
def XY:=@List.nil_append
def XZ:=@Rat.le_of_lt
def X2:=@Nat.eq_zero_or_pos
def X4:=@Int.natAbs_mul
def X5:=@Nat.lt_irrefl
def X8:=@List.map_append
def X9:=@List.getElem?_modify
def Ya:=@List.any_eq_false
def Yb:=@Nat.mul_assoc
def Yc:=@Nat.lt_of_lt_of_le
def Yd:=@List.drop_eq_getElem_cons
def Ye:=@Nat.pos_of_ne_zero
def Yf:=@Nat.div_le_self
def Yh:=@List.length_drop
def Yi:=@List.replicate_succ'
def Yj:=@List.mem_of_mem_take
def Yk:=@Nat.add_sub_cancel
def Yl:=@Nat.add_zero
def Ym:=@Nat.div_div_eq_div_mul
def Yn:=@Nat.mod_eq_of_lt
def Yo:=@Int.lt_trichotomy
def Yp:=@List.range_succ
def Yq:=@List.set_append
def Yr:=@List.not_mem_nil
def Ys:=@List.getElem?_take
def Yt:=@List.length_cons
def Yu:=@List.replicate_succ
def Yv:=@List.mem_replicate
def Yw:=@Nat.div_eq_of_lt
def Yx:=@Nat.le_add_right
def Yy:=@Int.natCast_add
def YA:=@List.drop_zero
def YB:=@List.getElem?_set_self
def YC:=@List.getElem?_set_ne
def YD:=@Rat.divInt_eq_div
def YE:=@Rat.le_trans
def YF:=@Bool.not_eq_true'
def YG:=@Nat.mul_mod_mul_left
def YH:=@Int.toNat_natCast
def YK:=@Rat.mul_comm
def YL:=@Rat.inv_pos
def YM:=@List.getElem_of_mem
def YN:=@Rat.mul_eq_zero
def YO:=@Nat.le_antisymm
def YP:=@Nat.div_one
def YQ:=@Nat.add_mul_mod_self_left
def YR:=@Nat.add_mul_div_left
def YS:=@Nat.shiftRight_eq_div_pow
def YT:=@Nat.shiftRight_and_distrib
def YU:=@List.getElem?_drop
def YV:=@Nat.mul_pos
def YW:=@Nat.pow_lt_pow_right
def YX:=@List.take_take
def YY:=@Nat.gcd_comm
def YZ:=@Int.sign_eq_neg_one_of_neg
def Y0:=@Int.sign_eq_one_of_pos
def Y3:=@Int.gcd_comm
def Y5:=@Rat.num_nonneg
def Y7:=@Int.natAbs_neg
def Y8:=@Rat.divInt_ofNat
def Va:=@Rat.neg_num
def Ve:=@List.countP_append
def Vf:=@List.map_set
def Vg:=@Rat.div_mul_cancel
def Vh:=@Nat.min_self
def Vi:=@Rat.mul_le_mul_of_nonneg_right
def Vk:=@Classical.byContradiction
def Vl:=@List.take_zero
def Vm:=@List.all_eq_false
def Vo:=@Bool.and_eq_false_iff
def Vp:=@List.mem_of_mem_drop
def Vq:=@List.mem_or_eq_of_mem_set
def Vr:=@List.take_append_of_le_length
def Vs:=@List.length_nil
def Vt:=@Nat.le_max_left
def Vu:=@Nat.le_max_right
def Vv:=@List.getD_cons_succ
def Vw:=@Nat.shiftRight_or_distrib
def Vx:=@List.take_succ_eq_append_getElem
def Vy:=@Nat.mul_lt_mul_of_pos_right
def Vz:=@Int.natCast_emod
def VB:=@Nat.dvd_mul_left
def VC:=@of_decide_eq_false
def VD:=@List.getElem?_zipWith
def VE:=@Array.setIfInBounds_comm
def VF:=@List.length_range
def VG:=@Rat.natCast_mul
def VH:=@List.map_congr_left
def VI:=@Nat.add_sub_cancel_left
def VJ:=@Nat.lt_of_not_le
def VK:=@Nat.eq_of_mul_eq_mul_left
def VL:=@Nat.lt_of_mul_lt_mul_left
def VM:=@Int.sign_eq_zero_iff_zero
def VN:=@List.pairwise_iff_getElem
namespace Am
variable {xs ys:List Nat}{k n x:Nat}
abbrev B64:Nat:=18446744073709551616

def nval:List Nat->Nat
  | []=>0
  | x::r=>x+B64*nval r

def Wds (xs:List Nat):Prop:=∀x∈xs,x<B64

def zc7(xs ys:List Nat):nval (xs++ys)=nval xs+B64^xs.length*nval ys:=by
 induction xs with
 | nil=>simp[nval]
 | cons x r ih =>
  simp only[List.cons_append,nval,ih,Yt,Xg];rw[XX,<-Yb,ZO B64 (B64^r.length),Nat.add_assoc]
def zc8(xs:List Nat)(h:Wds xs):nval xs<B64^xs.length:=by
 induction xs with
 | nil=>simp[nval]
 | cons x r ih =>
  have h1:x<B64:=h x σ;have a:=ih (λy b=>h y (by simp[b]));simp only[nval,Yt,Xg];grind
def zbK(k:Nat):nval (List.replicate k 0)=0:=by
 induction k with
 | zero=>rfl
 | succ k ih=>simp[Yu,nval,ih]
def Wds.append(h:Wds xs)(k:Wds ys):Wds (xs++ys):=by intro x a;rcases ZT.1 a with h' | h';exact h x h';exact k x h'
def Wds.left(h:Wds (xs++ys)):Wds xs:=λx a=>h x (ZT.2 (.inl a))
def Wds.right(h:Wds (xs++ys)):Wds ys:=λx a=>h x (ZT.2 (.inr a))
def Wds.take{xs:List Nat}(h:Wds xs)(k:Nat):Wds (xs.take k):=λx a=>h x (Yj a)
def Wds.drop{xs:List Nat}(h:Wds xs)(k:Nat):Wds (xs.drop k):=λx a=>h x (Vp a)
theorem Wds.set{xs:List Nat}(h:Wds xs)(k v:Nat)(b:v<B64):Wds (xs.set k v):=by intro x a;rcases Vq a with h' | h';exact h x h';omega
theorem Wds.nil:Wds []:=by intro x a;cases a
def Wds.replicate(k:Nat):Wds (List.replicate k 0):=by intro x a;have:=(Yv.1 a).2;grind
def Wds.at_(h:Wds xs)(k:Nat):xs.getD k 0<B64:=by by_cases hk:k<xs.length;rw[Zh,Ze hk];exact h _ (Xk hk);grind
def Canon (xs:List Nat):Prop:=∀h:xs≠[],xs.getLast h≠0

def trimZ (xs:List Nat):List Nat:=(xs.reverse.dropWhile (· == 0)).reverse

def zdK(xs:List Nat):trimZ (xs++[0])=trimZ xs:=by simp[trimZ]
theorem ziM(xs:List Nat)(x:Nat)(h:x≠0):trimZ (xs++[x])=xs++[x]:=by simp[trimZ,h]
def ziK{α:Type}(xs:List α):xs=[]\/∃ys y,xs=ys++[y]:=by
 rcases List.eq_nil_or_concat xs with h | ⟨ys,y,h⟩
 exact .inl h;grind
def zrQ{α:Type}{P:List α->Prop}(h0:P [])(h1:∀xs x,P xs->P (xs++[x]))(xs:List α):P xs:=by
 have:∀n (xs:List α),xs.length=n->P xs:=by
  intro n
  induction n with
  | zero=>intro xs h;rw[Xo.1 h];exact h0
  | succ n ih =>
   intro xs h;rcases ziK xs with rfl | ⟨ys,y,rfl⟩
   simp at h;exact h1 ys y (ih ys (by simpa using h))
 grind
def zl7(xs:List Nat):nval (trimZ xs)=nval xs:=by
 induction xs using zrQ with
 | h0=>rfl
 | h1 xs x ih =>
  by_cases h:x=0;subst h;rw[zdK,ih,zc7];simp[nval];grind[ziM]
def zo7(xs:List Nat):trimZ xs=xs.take (trimZ xs).length:=by
 induction xs using zrQ with
 | h0=>rfl
 | h1 xs x ih =>
  by_cases h:x=0;subst h;rw[zdK];have a:(trimZ xs).length<=xs.length:=by rw[ih];exact List.length_take_le' _ _
  rw[Vr a];exact ih
  simp_all[ziM,Z2,Za]
def Wds.trimZ{xs:List Nat}(h:Wds xs):Wds (trimZ xs):=by rw[zo7 xs];exact h.take _
def zop:Canon []:=λh=>absurd rfl h
theorem zlW(h:Canon (xs++[x])):x≠0:=by have:=h σ;grind
def zm8(h:x≠0):Canon (xs++[x]):=by intro _;grind
def zln(h:Canon xs):trimZ xs=xs:=by
 rcases ziK xs with rfl | ⟨ys,y,rfl⟩
 rfl;grind[ziM,zlW]
def zqr(xs:List Nat)(h:Canon xs)(a:xs≠[]):B64^(xs.length-1)<=nval xs:=by
 rcases ziK xs with rfl | ⟨ys,y,rfl⟩
 grind;have b:=zlW h;rw[zc7];simp only[nval,Zz,Yt,Vs,Yk,Nat.mul_zero,Yl];have:B64^ys.length*1<=B64^ys.length*y:=Xp _ ω;omega
def zoS(xs:List Nat)(h:Canon xs):nval xs=0↔xs=[]:=by constructor;intro h0;rcases Classical.em (xs=[])with h' | h';exact h';have:=zqr xs h h';have:0<B64^(xs.length-1):=Z3 δ;omega;rintro rfl;rfl
def wlen (n:Nat):Nat:=if n=0 then 0 else Nat.log2 n/64+1

def zfP(n k:Nat):wlen n<=k↔n<B64^k:=by
 have a:(B64:Nat)=2^64:=δ
 unfold wlen;split
 grind;rename_i h;rw[a,<-Nat.pow_mul,<-Nat.log2_lt h];omega
def zaZ(h:n<B64^k):wlen n<=k:=(zfP n k).2 h
def ys0(h:wlen n<=k):n<B64^k:=(zfP n k).1 h
def zfD(n:Nat):n<B64^wlen n:=(zfP n _).1 (Za _)
def zco{a b:Nat}(h:a<=b):wlen a<=wlen b:=zaZ (XR h (zfD b))
def zdy(a b:Nat):wlen (a*b)<=wlen a+wlen b:=by simp[zaZ,XA,Nat.mul_lt_mul'',zfD]
def zgg(a b:Nat):wlen (a+b)<=max (wlen a) (wlen b)+1:=by apply zaZ;have h1:a<B64^max (wlen a) (wlen b):=Yc (zfD a) (Xq δ (Vt _ _));have c:b<B64^max (wlen a) (wlen b):=Yc (zfD b) (Xq δ (Vu _ _));rw[Xg];grind
theorem zdl(h:n<B64):wlen n<=1:=by simp_all[zaZ]
def zk7(xs:List Nat)(h:Wds xs)(hc:Canon xs):xs.length=wlen (nval xs):=by
 apply YO;rcases Classical.em (xs=[])with rfl | hne;simp;have h1:=zqr xs hc hne;have b:0<xs.length:=List.length_pos_iff.2 hne;rcases ZM (wlen (nval xs)) xs.length with hlt | hge;have a:nval xs<B64^(xs.length-1):=(zfP _ _).1 ω;omega;exact hge
 simp_all[zaZ,zc8]
def zhQ(xs:List Nat)(h:Wds xs)(k:Nat):xs.getD k 0=nval xs/B64^k%B64:=by
 induction xs generalizing k with
 | nil=>simp[nval]
 | cons x r ih =>
  have h1:x<B64:=h x σ;have b:=ih (λy a=>h y (by simp[a]));cases k with
  | zero=>simp only[nval,List.getD_cons_zero,Nat.pow_zero,YP,YQ];grind
  | succ k =>
   simp only[Vv,b k,nval,Xg];rw[ZO (B64^k) B64,<-Ym,YR _ _ δ,Yw h1,Xc]
end Am

/- Plain lemmas on words of 64 bits: sums,differences,products. Conditions: the arguments are words. -/
namespace Am
def zel{a:Nat}(h:a<2):a=0\/a=1:=ω
def zwy(x y c:Nat)(f:x<18446744073709551616)(g:y<18446744073709551616)(hc:c<=1) :
  ((x&&&y)|||((x|||y)&&&(18446744073709551615-(x+y+c)%18446744073709551616)))/9223372036854775808=(x+y+c)/18446744073709551616:=by
 have e:(9223372036854775808:Nat)=2^63:=δ
 rw[e,<-YS,Vw,YT,YT,Vw];simp only[YS];have a:x/2^63<2:=ω
 have b:y/2^63<2:=ω
 have d:(18446744073709551615-(x+y+c)%18446744073709551616)/2^63<2:=ω
 rcases zel a with h1 | h1<;>rcases zel b with h2 | h2<;>rcases zel d with h3 | h3<;>rw[h1,h2,h3]<;>simp<;>omega
def zt1(x y c:Nat)(i:x<18446744073709551616)(k:y<18446744073709551616)(hc:c<=1) :
  (((18446744073709551615-x)&&&y)|||((18446744073709551615-(x^^^y))&&&((x+(18446744073709551616-y)+(18446744073709551616-c))%18446744073709551616)))/9223372036854775808=if x<y+c then 1 else 0:=by
 have e:(9223372036854775808:Nat)=2^63:=δ
 have j:x^^^y<2^64:=Nat.xor_lt_two_pow ω ω;rw[e,<-YS,Vw,YT,YT];have a:(x^^^y)>>>63=x>>>63^^^y>>>63:=Nat.shiftRight_xor_distrib;simp only[YS]at a ⊢;have d:x/2^63<2:=ω
 have f:y/2^63<2:=ω
 have g:((x+(18446744073709551616-y)+(18446744073709551616-c))%18446744073709551616)/2^63<2:=ω
 have b:(18446744073709551615-x)/2^63=1-x/2^63:=ω
 have hm:(18446744073709551615-(x^^^y))/2^63=1-(x^^^y)/2^63:=ω
 rw[hm,b,a];rcases zel d with h1 | h1<;>rcases zel f with h2 | h2<;>rcases zel g with h3 | h3<;>rw[h1,h2,h3]<;>simp<;>(try split)<;>omega
def zu6(a b y0 y1:Nat)(h0:a<4294967296)(h1:b<4294967296)(i:y0<4294967296)(j:y1<4294967296) :
  b*y0+a*y0/4294967296<18446744073709551616/\(b*y0+a*y0/4294967296)%4294967296+a*y1<18446744073709551616 /\
  b*y1+(b*y0+a*y0/4294967296)/4294967296+((b*y0+a*y0/4294967296)%4294967296+a*y1)/4294967296<18446744073709551616 /\
  (a+4294967296*b)*(y0+4294967296*y1)=18446744073709551616*(b*y1+(b*y0+a*y0/4294967296)/4294967296+((b*y0+a*y0/4294967296)%4294967296+a*y1)/4294967296)+((a+4294967296*b)*(y0+4294967296*y1))%18446744073709551616:=by
 have c:a*y0<=(4294967296-1)*(4294967296-1):=Xr ω ω;have f:b*y0<=(4294967296-1)*(4294967296-1):=Xr ω ω;have d:a*y1<=(4294967296-1)*(4294967296-1):=Xr ω ω;have g:b*y1<=(4294967296-1)*(4294967296-1):=Xr ω ω;grind
end Am

/- Plain lemmas: sums,differences,products and comparisons of numbers as lists of words,step by step. Conditions: as each says. -/
namespace Am
variable {os xs ys:List Nat}{c i k over x:Nat}
def zlg(x:Nat)(r:List Nat):nval (x::r)=x+B64*nval r:=rfl
theorem zjA(xs:List Nat)(k:Nat)(h:xs.length<=k):xs.getD k 0=0:=by rw[Zh,Xl h];rfl
def zaG(xs:List Nat)(k:Nat):nval (xs.take (k+1))=nval (xs.take k)+B64^k*xs.getD k 0:=by by_cases hk:k<xs.length;rw[Vx hk,zc7,ZI,XD ω];rw[Zh,Ze hk];simp[nval];grind[List.take_of_length_le,zjA]
def zfE(xs:List Nat)(k:Nat):nval (xs.drop k)=xs.getD k 0+B64*nval (xs.drop (k+1)):=by by_cases hk:k<xs.length;rw[Yd hk,zlg];rw[Zh,Ze hk];rfl;rw[XK ω,XK ω,zjA xs k ω];rfl
def zaY(xs:List Nat)(k:Nat)(hk:k<=xs.length):nval xs=nval (xs.take k)+B64^k*nval (xs.drop k):=by have:=zc7 (xs.take k) (xs.drop k);rw[List.take_append_drop,ZI,XD hk]at this;exact this
def zcV(xs:List Nat)(j v:Nat)(hj:j<xs.length):nval (xs.set j v)+B64^j*xs.getD j 0=nval xs+B64^j*v:=by
 induction xs generalizing j with
 | nil=>simp at hj
 | cons x r ih =>
  cases j with
  | zero=>simp[nval];omega
  | succ j =>
   have h:=ih j (by simpa using hj);simp only[List.set_cons_succ,zlg,Vv,Xg];have e:∀a:Nat,B64^j*B64*a=B64*(B64^j*a):=λa=>by rw[ZO (B64^j) B64,Yb]
   rw[e,e];have:=congrArg (B64 * ·) h;grind
def zcU(xs:List Nat)(j v k:Nat)(hj:j<xs.length):(xs.set j v).getD k 0=if k=j then v else xs.getD k 0:=ψ
def Zfrom (xs:List Nat) (k:Nat):Prop:=∀j,k<=j->xs.getD j 0=0
def Zfrom.start(n:Nat):Zfrom (List.replicate n 0) 0:=by intro j _;grind
theorem Zfrom.set{xs:List Nat}{k:Nat}(h:Zfrom xs k)(hk:k<xs.length)(v:Nat):Zfrom (xs.set k v) (k+1):=by intro j hj;rw[zcU _ _ _ _ hk,if_neg ω];exact h j ω
def Zfrom.mono{l:Nat}(h:Zfrom xs k)(a:k<=l):Zfrom xs l:=λj hj=>h j ω
/-! ### The sum -/
structure AddInv (xs ys os:List Nat) (k c:Nat):Prop where
  one:c<=1
  wds:Wds os
  zer:Zfrom os k
  eq:nval os+B64^k*c=nval (xs.take k)+nval (ys.take k)

def AddInv.start(xs ys:List Nat)(n:Nat):AddInv xs ys (List.replicate n 0) 0 0 :=
 ⟨ω,Wds.replicate n,Zfrom.start n,by simp[zbK,nval]⟩
def AddInv.step(h:AddInv xs ys os k c)(hk:k<os.length)(e:Wds xs)(f:Wds ys) :
  AddInv xs ys (os.set k ((xs.getD k 0+ys.getD k 0+c)%B64)) (k+1) ((xs.getD k 0+ys.getD k 0+c)/B64):=by
 have h1:=e.at_ k;have g:=f.at_ k;have hc:=h.one;refine⟨?_,h.wds.set _ _ (Z0 _ δ),h.zer.set hk _,?_⟩;grind;have d:=zcV os k ((xs.getD k 0+ys.getD k 0+c)%B64) hk;rw[h.zer k (Za _)]at d;rw[zaG,zaG,Xg];have b:=Xu (xs.getD k 0+ys.getD k 0+c) B64;have i:=h.eq;grind
def AddInv.done(h:AddInv xs ys os k c)(hk:k=os.length)(b:Wds xs)(d:Wds ys)(h1:xs.length<k)(f:ys.length<k) :
  nval os=nval xs+nval ys:=by
 have a:=h.eq;rw[Z2 ω,Z2 ω]at a;have g:=zc8 xs b;have i:=zc8 ys d;have j:B64^xs.length<=B64^(k-1):=Xq δ ω;have l:B64^ys.length<=B64^(k-1):=Xq δ ω;have e:B64^k=B64^(k-1)*B64:=by rw[<-Xg];congr 1;omega
 have hc:=h.one;rcases(show c=0\/c=1 by omega)with rfl | rfl;omega;grind
/-! ### The difference -/
structure SubInv (xs ys os:List Nat) (k c:Nat):Prop where
  one:c<=1
  wds:Wds os
  zer:Zfrom os k
  eq:nval os+nval (ys.take k)=nval (xs.take k)+B64^k*c

def SubInv.start(xs ys:List Nat)(n:Nat):SubInv xs ys (List.replicate n 0) 0 0 :=
 ⟨ω,Wds.replicate n,Zfrom.start n,by simp[zbK]⟩
def SubInv.step(h:SubInv xs ys os k c)(hk:k<os.length)(d:Wds xs)(e:Wds ys) :
  SubInv xs ys (os.set k ((xs.getD k 0+(B64-ys.getD k 0)+(B64-c))%B64)) (k+1) (if xs.getD k 0<ys.getD k 0+c then 1 else 0):=by
 have h1:=d.at_ k;have f:=e.at_ k;have hc:=h.one;refine⟨by split<;>omega,h.wds.set _ _ (Z0 _ δ),h.zer.set hk _,?_⟩;have b:=zcV os k ((xs.getD k 0+(B64-ys.getD k 0)+(B64-c))%B64) hk;rw[h.zer k (Za _)]at b;rw[zaG,zaG,Xg];have g:=h.eq;generalize xs.getD k 0=x at *
 generalize ys.getD k 0=y at *
 generalize hp:B64^k=p at *
 have hm:(x+(B64-y)+(B64-c))%B64+y+c=x+B64*(if x<y+c then 1 else 0):=by
  simp only[B64]at *
  split<;>omega
 grind
def SubInv.done(h:SubInv xs ys os k c)(h1:xs.length<=k)(d:ys.length<=k)(f:nval ys<=nval xs)(b:os.length<=k) :
  nval os=nval xs-nval ys:=by
 have a:=h.eq;rw[Z2 ω,Z2 ω]at a;have hc:=h.one;have e:=zc8 os h.wds;have hm:B64^os.length<=B64^k:=Xq δ b;rcases(show c=0\/c=1 by omega)with rfl | rfl<;>omega
/-! ### The comparison -/
def zgo(b:Wds xs)(a:Canon ys)(h:xs.length<ys.length):nval xs<nval ys:=by have h1:=zc8 xs b;have c:=zqr ys a (λe=>ψ);have:B64^xs.length<=B64^(ys.length-1):=Xq δ ω;omega
def zi7(b:Wds xs)(k:Nat)(d:k<xs.length)(e:k<ys.length)
  (a:xs.drop (k+1)=ys.drop (k+1)) (c:xs.getD k 0<ys.getD k 0):nval xs<nval ys:=by
 rw[zaY xs k ω,zaY ys k ω,zfE xs k,zfE ys k,a];have h1:=zc8 (xs.take k) (b.take k);rw[ZI,XD ω]at h1;generalize xs.getD k 0=x at *
 generalize ys.getD k 0=y at *
 generalize nval (ys.drop (k+1))=t at *
 generalize B64^k=p at *
 have:p*(x+B64*t+1)<=p*(y+B64*t):=Xp _ ω;rw[XX,XB]at this;omega
def zoy(k:Nat)(b:k<xs.length)(c:k<ys.length)(d:xs.drop (k+1)=ys.drop (k+1))(a:xs.getD k 0=ys.getD k 0) :
  xs.drop k=ys.drop k:=by
 rw[Yd b,Yd c,d];rw[Zh,Zh,Ze b,Ze c]at a;simp at a;rw[a]
/-! ### The product,word by word: within one round -/
structure MulInv (base:Nat) (ys os:List Nat) (i x k over:Nat):Prop where
  wds:Wds os
  zer:Zfrom os (i+ys.length)
  ovr:over<B64
  eq:nval os+B64^(i+k)*over=base+B64^i*x*nval (ys.take k)

def zle{y a b:Nat}(e:x<B64)(f:y<B64)(c:a<B64)(d:b<B64):x*y+a+b<B64*B64:=by have:x*y<=(B64-1)*(B64-1):=Xr ω ω;grind
def MulInv.step{base:Nat}(h:MulInv base ys os i x k over)(l:x<B64)(m:Wds ys)(hk:k<ys.length)(s:i+ys.length<=os.length) :
  MulInv base ys (os.set (i+k) ((x*ys.getD k 0+os.getD (i+k) 0+over)%B64)) i x (k+1) ((x*ys.getD k 0+os.getD (i+k) 0+over)/B64):=by
 have d:=m.at_ k;have e:=h.wds.at_ (i+k);have f:=h.ovr;refine⟨h.wds.set _ _ (Z0 _ δ),?_,?_,?_⟩;intro j hj;rw[zcU _ _ _ _ ω,if_neg ω];exact h.zer j hj;rw[Xv δ];simp_all[zle]
 have t:=zcV os (i+k) ((x*ys.getD k 0+os.getD (i+k) 0+over)%B64) ω;have n:=h.eq;have g:=Xu (x*ys.getD k 0+os.getD (i+k) 0+over) B64;rw[zaG];grind
structure SchInv (xs ys os:List Nat) (i:Nat):Prop where
  wds:Wds os
  zer:Zfrom os (i+ys.length)
  eq:nval os=nval (xs.take i)*nval ys

def SchInv.start(xs ys:List Nat)(n:Nat):SchInv xs ys (List.replicate n 0) 0 :=
 ⟨Wds.replicate n,(Zfrom.start n).mono ω,by simp[zbK,nval]⟩
def SchInv.enter(h:SchInv xs ys os i)(x:Nat):MulInv (nval os) ys os i x 0 0 :=
 ⟨h.wds,h.zer,δ,by simp[nval]⟩
def SchInv.leave{a:List Nat}(h:SchInv xs ys os i)(m:MulInv (nval os) ys a i (xs.getD i 0) ys.length over)(b:i+ys.length<a.length) :
  SchInv xs ys (a.set (i+ys.length) over) (i+1):=by
 refine⟨m.wds.set _ _ m.ovr,?_,?_⟩;have:=m.zer.set b over;grind;have d:=zcV a (i+ys.length) over b;rw[m.zer _ (Za _)]at d;have c:=m.eq;rw[Z2 (Za _)]at c;rw[zaG,XE,<-h.eq];omega
def SchInv.done(h:SchInv xs ys os i)(hi:xs.length<=i):nval os=nval xs*nval ys:=by rw[h.eq,Z2 hi]
/-! ### The quotient by a word,from above -/
structure DivWInv (xs os:List Nat) (x k left:Nat):Prop where
  wds:Wds os
  lft:left<x
  eq:nval (xs.drop k)=x*nval (os.drop k)+left

def DivWInv.start(xs:List Nat)(x n k:Nat)(b:0<x)(h1:xs.length<=k)(a:n<=k):DivWInv xs (List.replicate n 0) x k 0 :=
 ⟨Wds.replicate n,b,by rw[XK h1,XK ψ];simp[nval]⟩
def DivWInv.step{left:Nat}(h:DivWInv xs os x (k+1) left)(hk:k<os.length)(b:Wds xs) :
  DivWInv xs (os.set k ((left*B64+xs.getD k 0)/x)) x k ((left*B64+xs.getD k 0)%x):=by
 have d:=h.lft;have f:=b.at_ k;have a:(left*B64+xs.getD k 0)/x<B64:=by rw[Xv ω];have:(left+1)*B64<=x*B64:=ZV _ ω;rw[XE]at this;rw[ZO B64 x];omega
 refine⟨h.wds.set _ _ a,Z0 _ ω,?_⟩;rw[zfE xs k,h.eq,zfE (os.set k _) k,zcU _ _ _ _ hk,if_pos rfl,List.drop_set_of_lt ω];have c:=Xu (left*B64+xs.getD k 0) x;grind
end Am

/- Plain lemmas: division of two words by one,the guess of a quotient's word,long division. Conditions: as each says. -/
namespace Am
variable {os us vs:List Nat}{U W a b bor c j k over p q r u u0 u1 u2 v v0 v1 y0 y1:Nat}
def zw6{y:Nat}(hle:q*y<=U)(b:U<(q+1)*y):q=U/y:=by
 have a:0<y:=ψ
 apply YO;rw[Nat.le_div_iff_mul_le a];exact hle;have:U/y<q+1:=by rw[Xv a];exact b
 omega
/-! ### a half word of a quotient -/
structure DigInv (u next y1 y0 q r:Nat):Prop where
  eq:u=q*y1+r
  top:u*4294967296+next<(q+1)*(y1*4294967296+y0)
  le:q<=4294967297

def DigInv.start(u next y1 y0:Nat)(h1:2147483648<=y1)(h0:y0<4294967296)(b:next<4294967296)(c:u<y1*4294967296+y0) :
  DigInv u next y1 y0 (u/y1) (u%y1):=by
 have a:=Xu u y1;have hr:u%y1<y1:=Z0 _ ω;refine⟨by rw[ZO];exact a.symm,?_,?_⟩;grind;have:u/y1<4294967298:=by rw[Xv ω];omega
 omega
def DigInv.down{next:Nat}(h:DigInv u next y1 y0 q r)(d:u<y1*4294967296+y0)(c:next<4294967296)
  (hc:4294967295<q\/r*4294967296+next<q*y0):DigInv u next y1 y0 (q-1) (r+y1)/\0<q:=by
 have a:0<q:=ψ
 obtain⟨p,rfl⟩:∃p,q=p+1:=⟨q-1,ω⟩
 refine⟨⟨?_,?_,?_⟩,a⟩;have:=h.eq;grind;simp only[Yk];rcases hc with hc | hc;have b:4294967296*(y1*4294967296+y0)<=(p+1)*(y1*4294967296+y0):=ZV _ ω;omega;have:=h.eq;grind;have:=h.le;omega
def DigInv.done{next:Nat}(h:DigInv u next y1 y0 q r)(h0:y0<4294967296)
  (hc:q*y0<=r*4294967296+next\/(4294967296<=r/\q<=4294967296)) :
  q=(u*4294967296+next)/(y1*4294967296+y0)/\q*(y1*4294967296+y0)<=u*4294967296+next:=by
 have hle:q*(y1*4294967296+y0)<=u*4294967296+next:=by
  have a:=h.eq;rcases hc with hc | ⟨hr,hq⟩
  grind;have:q*y0<=4294967296*4294967295:=Xr hq ω;have:4294967296*4294967296<=r*4294967296:=ZV _ hr;grind
 exact⟨zw6 hle h.top,hle⟩
/-! ### two words by one: out of two half words -/
def zpZ(hi c a y H b q r:Nat)(f:b=H*H)(d:0<y)(h1:y*q+r=hi*H+c) :
  q*H+(r*H+a)/y=(hi*b+(c*H+a))/y/\(r*H+a)%y=(hi*b+(c*H+a))%y:=by
 have e:hi*b+(c*H+a)=(r*H+a)+y*(q*H):=ψ
 rw[e,YR _ _ d,YQ];omega
def zAc(hi a b y:Nat)(c:0<y) :
  ((hi*4294967296+a)/y)*4294967296+(((hi*4294967296+a)%y)*4294967296+b)/y=(hi*18446744073709551616+(a*4294967296+b))/y
  /\ (((hi*4294967296+a)%y)*4294967296+b)%y=(hi*18446744073709551616+(a*4294967296+b))%y :=
 zpZ hi a b y 4294967296 18446744073709551616 _ _ δ c (Xu _ _)
def zr6(a y t:Nat)(b:0<t):(a*t)/(y*t)=a/y/\(a*t)%(y*t)=(a%y)*t :=
 by grind[Nat.mul_div_mul_right,Nat.mul_mod_mul_right]
/-! ### the guess of a quotient's word -/
structure GuessInv (u2 u1 u0 v1 v0 q r:Nat):Prop where
  eq:u2*B64+u1=q*v1+r
  lt:q<B64
  top:(u2*B64+u1)*B64+u0<(q+1)*(v1*B64+v0)\/q=B64-1

structure GuessIs (u2 u1 u0 v1 v0 q:Nat):Prop where
  lt:q<B64
  le:q*(v1*B64+v0)<=(u2*B64+u1)*B64+u0
  top:(u2*B64+u1)*B64+u0<(q+1)*(v1*B64+v0)\/q=B64-1

def zk3(U u0 v1 v0 q r:Nat)(a:v1*q+r=U)(hr:r<v1)(h0:u0<B64):U*B64+u0<(q+1)*(v1*B64+v0):=ψ
def GuessInv.start(u2 u1 u0 v1 v0:Nat)(h:u2<v1)(h1:u1<B64)(h0:u0<B64) :
  GuessInv u2 u1 u0 v1 v0 ((u2*B64+u1)/v1) ((u2*B64+u1)%v1):=by
 have a:=Xu (u2*B64+u1) v1;have hr:(u2*B64+u1)%v1<v1:=Z0 _ ω;refine⟨by rw[ZO _ v1];exact a.symm,?_,.inl ?_⟩;rw[Xv ω];have:(u2+1)*B64<=v1*B64:=ZV _ h;grind;grind
def GuessInv.start'(u1 u0 v1 v0:Nat):GuessInv v1 u1 u0 v1 v0 (B64-1) (u1+v1):=by refine⟨?_,δ,.inr rfl⟩;grind
def GuessInv.done(h:GuessInv u2 u1 u0 v1 v0 q r)(c:v0<B64)(hc:q*v0<=r*B64+u0\/B64<=r) :
  GuessIs u2 u1 u0 v1 v0 q:=by
 refine⟨h.lt,?_,h.top⟩;have a:=h.eq;rw[a];have b:=h.lt;rcases hc with hc | hc;grind;have:q*v0<=(B64-1)*(B64-1):=Xr ω ω;have:B64*B64<=r*B64:=ZV _ hc;grind
def GuessInv.down(h:GuessInv u2 u1 u0 v1 v0 q r)(hc:r*B64+u0<q*v0) :
  GuessInv u2 u1 u0 v1 v0 (q-1) (r+v1)/\0<q:=by
 have a:0<q:=ψ
 obtain⟨p,rfl⟩:∃p,q=p+1:=⟨q-1,ω⟩
 simp only[Yk];refine⟨⟨?_,?_,.inl ?_⟩,a⟩;have:=h.eq;rw[XE]at this;omega;have:=h.lt;omega;rw[h.eq];grind
def zoH{V B:Nat}(f:q<B)(hle:q*V<=U)(a:U<(q+1)*V\/q=B-1)
  (j:W=U*p+c) (k:v=V*p+b) (m:c<p) (l:b<p) (e:W<v*B) (i:B<=V+1) :
  W<(q+1)*v/\(q-1)*v<=W:=by
 refine⟨?_,?_⟩;rcases a with a | rfl;have h1:(U+1)*p<=(q+1)*V*p:=ZV _ a;have d:(q+1)*(V*p)<=(q+1)*v:=Xp _ ω;grind;grind;rcases X2 q with rfl | f;simp;obtain⟨r,rfl⟩:∃r,q=r+1:=⟨q-1,ω⟩
 simp only[Yk];have h1:(r+1)*V*p<=U*p:=ZV _ hle;have d:r*v<=r*((V+1)*p):=Xp _ ψ;have g:r*((V+1)*p)<=(r+1)*V*p:=by rw[<-Yb];apply ZV;grind
 omega
def zxe(hg:GuessIs u2 u1 u0 v1 v0 q)
  (c:W=((u2*B64+u1)*B64+u0)*p+b) (e:v=(v1*B64+v0)*p+a) (i:b<p) (g:a<p)
  (d:W<v*B64) (f:0<v1) :
  W<(q+1)*v/\(q-1)*v<=W :=
 zoH hg.lt hg.le hg.top c e i g d
  (Zf (Zf (Nat.le_mul_of_pos_left B64 f) (Yx _ v0)) (Yx _ 1))
/-! ### a round of the long division: what is taken,and what is put back -/
def za8 (us os:List Nat) (a b:Nat):Prop:=os.length=us.length/\∀j,j<a\/b<=j->os.getD j 0=us.getD j 0
theorem za8.refl(us:List Nat)(a b:Nat):za8 us us a b:=⟨rfl,λ_ _=>rfl⟩
theorem za8.set{us os:List Nat}{a b:Nat}(h:za8 us os a b)(k v:Nat)(h1:a<=k)(d:k<b)(c:k<us.length):za8 us (os.set k v) a b :=
 ⟨by rw[ZW];exact h.1,λj hj=>by rw[zcU _ _ _ _ (by rw[h.1];exact c),if_neg ω];exact h.2 j hj⟩
structure TakeInv (us os vs:List Nat) (k q j over bor:Nat):Prop where
  wds:Wds os
  ovr:over<B64
  one:bor<=1
  out:za8 us os k (k+j)
  eq:nval os+B64^k*(q*nval (vs.take j))=nval us+B64^(k+j)*(over+bor)

def TakeInv.start(us vs:List Nat)(k q:Nat)(h:Wds us):TakeInv us us vs k q 0 0 0 :=
 ⟨h,δ,ω,za8.refl _ _ _,by simp[nval]⟩
def za8.more(h:za8 us os a b)(hc:b<=c):za8 us os a c:=⟨h.1,λj hj=>h.2 j ω⟩
def zrU(x y c:Nat)(a:x<B64)(b:y<B64)(hc:c<=1) :
  (x+(B64-y)+(B64-c))%B64+y+c=x+B64*(if x<y+c then 1 else 0):=by
 simp only[B64]at *
 split<;>omega
def TakeInv.step(h:TakeInv us os vs k q j over bor)(o:q<B64)(t:Wds vs)(m:k+j<us.length) :
  TakeInv us (os.set (k+j) ((us.getD (k+j) 0+(B64-(vs.getD j 0*q+over+0)%B64)+(B64-bor))%B64)) vs k q (j+1) ((vs.getD j 0*q+over+0)/B64)
   (if us.getD (k+j) 0<(vs.getD j 0*q+over+0)%B64+bor then 1 else 0):=by
 have u:=t.at_ j;have a:os.getD (k+j) 0=us.getD (k+j) 0:=h.out.2 _ (.inr (Za _));have b:=h.wds.at_ (k+j);rw[a]at b;have n:=h.ovr;have v:os.length=us.length:=h.out.1;refine⟨h.wds.set _ _ (Z0 _ δ),?_,by split<;>omega,(h.out.more ω).set _ _ ω ω m,?_⟩;rw[Xv δ];exact zle u o n δ;have r:=zcV os (k+j) ((us.getD (k+j) 0+(B64-(vs.getD j 0*q+over+0)%B64)+(B64-bor))%B64) ω;rw[a]at r;have s:=zrU (us.getD (k+j) 0) ((vs.getD j 0*q+over+0)%B64) bor b (Z0 _ δ) h.one;have i:=Xu (vs.getD j 0*q+over+0) B64;have l:=h.eq;rw[zaG];grind
def TakeInv.last(h:TakeInv us os vs k q vs.length over bor)(i:k+vs.length<us.length) :
  let a:=os.set (k+vs.length) ((us.getD (k+vs.length) 0+(B64-over)+(B64-bor))%B64)
  let b:=if us.getD (k+vs.length) 0<over+bor then 1 else 0
  Wds a/\za8 us a k (k+vs.length+1)/\nval a+B64^k*(q*nval vs)=nval us+B64^(k+vs.length+1)*b:=by
 have e:os.getD (k+vs.length) 0=us.getD (k+vs.length) 0:=h.out.2 _ (.inr (Za _));have f:=h.wds.at_ (k+vs.length);rw[e]at f;have m:os.length=us.length:=h.out.1;refine⟨h.wds.set _ _ (Z0 _ δ),(h.out.more ω).set _ _ ω ω i,?_⟩;have j:=zcV os (k+vs.length) ((us.getD (k+vs.length) 0+(B64-over)+(B64-bor))%B64) ω;rw[e]at j;have l:=zrU (us.getD (k+vs.length) 0) over bor f h.ovr h.one;have c:=h.eq;rw[Z2 (Za _)]at c;rw[Xg];grind
structure BackInv (us os vs:List Nat) (k j c:Nat):Prop where
  wds:Wds os
  one:c<=1
  out:za8 us os k (k+j)
  eq:nval os+B64^(k+j)*c=nval us+B64^k*nval (vs.take j)

def BackInv.start(us vs:List Nat)(k:Nat)(h:Wds us):BackInv us us vs k 0 0 :=
 ⟨h,ω,za8.refl _ _ _,by simp[nval]⟩
def BackInv.step(h:BackInv us os vs k j c)(m:Wds vs)(g:k+j<us.length) :
  BackInv us (os.set (k+j) ((us.getD (k+j) 0+vs.getD j 0+c)%B64)) vs k (j+1) ((us.getD (k+j) 0+vs.getD j 0+c)/B64):=by
 have s:=m.at_ j;have a:os.getD (k+j) 0=us.getD (k+j) 0:=h.out.2 _ (.inr (Za _));have l:=h.wds.at_ (k+j);rw[a]at l;have o:os.length=us.length:=h.out.1;have hc:=h.one;refine⟨h.wds.set _ _ (Z0 _ δ),?_,(h.out.more ω).set _ _ ω ω g,?_⟩;grind;have i:=zcV os (k+j) ((us.getD (k+j) 0+vs.getD j 0+c)%B64) ω;rw[a]at i;have f:=Xu (us.getD (k+j) 0+vs.getD j 0+c) B64;have n:=h.eq;rw[zaG];grind
def BackInv.last(h:BackInv us os vs k vs.length c)(g:k+vs.length<us.length) :
  let a:=os.set (k+vs.length) ((us.getD (k+vs.length) 0+c)%B64)
  Wds a/\za8 us a k (k+vs.length+1)/\∃b,nval a+B64^(k+vs.length+1)*b=nval us+B64^k*nval vs:=by
 have i:os.getD (k+vs.length) 0=us.getD (k+vs.length) 0:=h.out.2 _ (.inr (Za _));have l:os.length=us.length:=h.out.1;refine⟨h.wds.set _ _ (Z0 _ δ),(h.out.more ω).set _ _ ω ω g,(us.getD (k+vs.length) 0+c)/B64,?_⟩;have j:=zcV os (k+vs.length) ((us.getD (k+vs.length) 0+c)%B64) ω;rw[i]at j;have e:=Xu (us.getD (k+vs.length) 0+c) B64;have f:=h.eq;rw[Z2 (Za _)]at f;rw[Xg];grind
end Am

/- Plain lemmas: long division as a whole;shifts. Conditions: as each says. -/
namespace Am
variable {os us vs xs zs:List Nat}{N W a b k m q s v x:Nat}
def zBq(h:Wds xs)(a:∀j,xs.getD j 0=0):nval xs=0:=by
 induction xs with
 | nil=>rfl
 | cons x r ih =>
  have h0:=a 0;have:=ih (λy b=>h y (by simp[b])) (λj=>by have:=a (j+1);grind);simp at h0;simp[nval,this,h0]
def Zfrom.lt(h:Zfrom xs k)(hw:Wds xs):nval xs=nval (xs.take k)/\nval xs<B64^k:=by
 have a:nval xs=nval (xs.take k):=by by_cases hk:k<=xs.length;have e:=zaY xs k hk;have:nval (xs.drop k)=0:=zBq (hw.drop k) (λj=>by have:=h (k+j) ω;simpa[Zh,YU]using this);rw[this]at e;simpa using e;grind[List.take_of_length_le]
 refine⟨a,?_⟩;rw[a];have:=zc8 (xs.take k) (hw.take k);have b:B64^(xs.take k).length<=B64^k:=Xq δ (by simp;omega);omega
def zq1(hw:Wds xs)(h:nval xs<B64^k):Zfrom xs k:=by intro j hj;rw[zhQ xs hw j];have:B64^k<=B64^j:=Xq δ hj;rw[Yw ω];rfl
def zlH(h:∀j,j<k->os.getD j 0=us.getD j 0):nval (os.take k)=nval (us.take k):=by
 induction k with
 | zero=>simp[nval]
 | succ k ih =>
  rw[zaG,zaG,ih (λj hj=>h j ω),h k ω]
def znM{M:Nat}(h:∀i,i<xs.length->xs.getD i 0=M/B64^i%B64)(a:M<B64^xs.length):nval xs=M:=by
 induction xs generalizing M with
 | nil=>simp at a;simp[nval,a]
 | cons x r ih =>
  have h0:=h 0 σ;simp at h0;have:=ih (M:=M/B64) (λi hi=>by
   have:=h (i+1) ψ;rw[Vv,Xg,ZO,<-Ym]at this;exact this) (by
   rw[Xv δ];grind)
  rw[zlg,this,h0];have:=Xu M B64;omega
/-! ### long division -/
structure LdInv (N v:Nat) (us qs:List Nat) (k:Nat):Prop where
  wu:Wds us
  wq:Wds qs
  eq:nval us+v*nval qs=N
  lt:nval (us.drop k)<v
  zer:∀j,j<k->qs.getD j 0=0

structure Window (us vs:List Nat) (k:Nat):Prop where
  z:Zfrom us (k+vs.length+1)
  lt:nval (us.drop k)<nval vs*B64

def zvB(b:Wds us)(d:Wds vs)(h:nval (us.drop (k+1))<nval vs)(hk:k<us.length):Window us vs k:=by
 have f:=zc8 vs d;have h0:=b.at_ k;have c:=zfE us k;refine⟨zq1 b ?_,?_⟩;rw[zaY us (k+1) ω];have h1:=zc8 (us.take (k+1)) (b.take _);rw[ZI,XD ω]at h1;have e:B64^(k+vs.length+1)=B64^(k+1)*B64^vs.length:=by rw[<-XA];congr 1;omega
 rw[e];have a:B64^(k+1)*(nval (us.drop (k+1))+1)<=B64^(k+1)*B64^vs.length:=Xp _ ω;rw[XX,XB]at a;omega;grind
def zdj(xs:List Nat)(k j:Nat):(xs.drop k).getD j 0=xs.getD (k+j) 0:=ψ
def zJK(hm:2<=m)(h:Zfrom zs (m+1))(hw:Wds zs) :
  nval zs=((zs.getD m 0*B64+zs.getD (m-1) 0)*B64+zs.getD (m-2) 0)*B64^(m-2)+nval (zs.take (m-2)):=by
 obtain⟨n,rfl⟩:∃n,m=n+2:=⟨m-2,ω⟩
 rw[(h.lt hw).1,zaG,zaG,zaG];grind
def zJJ(hm:2<=zs.length) :
  nval zs=(zs.getD (zs.length-1) 0*B64+zs.getD (zs.length-2) 0)*B64^(zs.length-2)+nval (zs.take (zs.length-2)):=by
 have e:nval zs=nval (zs.take (zs.length-2+1+1)):=by rw[Z2 ω]
 rw[e,zaG,zaG,show zs.length-2+1=zs.length-1 by omega,show zs.length-1=zs.length-2+1 by omega,Xg];grind
def zlm(xs:List Nat)(k:Nat)(h:Wds xs):nval (xs.take k)<B64^k:=by have:=zc8 (xs.take k) (h.take k);have a:B64^(xs.take k).length<=B64^k:=Xq δ (by simp;omega);omega
def Window.guess(h:Window us vs k)(b:Wds us)(c:Wds vs)(hm:2<=vs.length)
  (d:0<vs.getD (vs.length-1) 0)
  (hg:GuessIs (us.getD (k+vs.length) 0) (us.getD (k+vs.length-1) 0) (us.getD (k+vs.length-2) 0) (vs.getD (vs.length-1) 0) (vs.getD (vs.length-2) 0) q) :
  nval (us.drop k)<(q+1)*nval vs/\(q-1)*nval vs<=nval (us.drop k):=by
 have e:Zfrom (us.drop k) (vs.length+1):=by intro j hj;rw[zdj];exact h.z _ ω
 have a:=zJK hm e (b.drop k);rw[zdj,zdj,zdj]at a;rw[show k+vs.length-1=k+(vs.length-1)by omega,show k+vs.length-2=k+(vs.length-2)by omega]at hg;exact zxe hg a (zJJ hm) (zlm _ _ (b.drop k)) (zlm _ _ c) h.lt d
def zlJ{u2 u1 u0 v1 v0 p B:Nat}(f:W=((u2*B+u1)*B+u0)*p+b)(i:v=(v1*B+v0)*p+a)(j:a<p)(h0:v0<B)(g:W<v*B) :
  u2<=v1:=by
 rcases ZM v1 u2 with hc | hc;exfalso;have h1:(v1+1)*B<=u2*B:=ZV _ hc;have c:v*B<=((v1*B+v0+1)*p)*B:=ZV _ ψ;have d:(v1*B+v0+1)*B<=(u2*B+u1)*B:=ZV _ ψ;have e:(v1*B+v0+1)*B*p<=((u2*B+u1)*B+u0)*p:=ZV _ ω;grind;exact hc
def Window.top(h:Window us vs k)(c:Wds us)(b:Wds vs)(hm:2<=vs.length) :
  us.getD (k+vs.length) 0<=vs.getD (vs.length-1) 0:=by
 have d:Zfrom (us.drop k) (vs.length+1):=by intro j hj;rw[zdj];exact h.z _ ω
 have a:=zJK hm d (c.drop k);rw[zdj,zdj,zdj]at a;exact zlJ a (zJJ hm) (zlm _ _ b) (b.at_ _) h.lt
def zDF{A Q P T:Nat}(c:0<P)(d:N=A+v*Q)(f:A=T+P*W)(b:T+P*a+P*(q*v)=A)(g:W<(q+1)*v) :
  (T+P*a)+v*(Q+P*q)=N/\a<v:=by
 have e:a+q*v=W:=by
  have:P*(a+q*v)=P*W:=by rw[XX];omega
  exact VK c this
 grind
def LdInv.step{qs:List Nat}(h:LdInv N (nval vs) us qs (k+1))(hk:k<qs.length)(c:k<=us.length)
  (d:za8 us os k m) (l:Wds os) (g:nval os+B64^k*(q*nval vs)=nval us) (i:nval (us.drop k)<(q+1)*nval vs) (n:q<B64) :
  LdInv N (nval vs) os (qs.set k q) k:=by
 have o:nval (os.take k)=nval (us.take k):=zlH λj hj=>d.2 j (.inl hj)
 have f:=zaY us k c;have a:=zaY os k (by rw[d.1];exact c);rw[o]at a;have e:=zcV qs k q hk;rw[h.zer k ω]at e;have p:nval (qs.set k q)=nval qs+B64^k*q:=ω
 have b:=zDF (P:=B64^k) (Z3 δ) h.eq.symm f (by rw[<-a];exact g) i;refine⟨l,h.wq.set _ _ n,?_,b.2,?_⟩;rw[p,a];exact b.1;intro j hj;rw[zcU _ _ _ _ hk,if_neg ω];exact h.zer j ω
def zo6(hw:Window us vs k)(d:Wds os)(e:za8 us os k (k+vs.length+1))(a:k<=us.length)
  (m:nval os+B64^k*(q*nval vs)=nval us+B64^(k+vs.length+1)*b) (l:b<=1) (c:q*nval vs<=nval (us.drop k)):b=0:=by
 have f:Zfrom os (k+vs.length+1):=λj hj=>by rw[e.2 j (.inr hj)];exact hw.z j hj
 have h1:=(f.lt d).2;have g:=zaY us k a;have i:B64^k*(q*nval vs)<=B64^k*nval (us.drop k):=Xp _ c;rcases(show b=0\/b=1 by omega)with rfl | rfl;rfl;omega
def ztX{c:Nat}(hw:Window us vs k)(g:Wds zs)(f:za8 us zs k (k+vs.length+1))(d:k<=us.length)
  (b:nval os+B64^k*(q*nval vs)=nval us+B64^(k+vs.length+1)*1)
  (n:nval zs+B64^(k+vs.length+1)*c=nval os+B64^k*nval vs) (o:0<q) (e:(q-1)*nval vs<=nval (us.drop k)) (r:nval us<B64^(k+vs.length+1)) :
  nval zs+B64^k*((q-1)*nval vs)=nval us:=by
 have i:Zfrom zs (k+vs.length+1):=λj hj=>by rw[f.2 j (.inr hj)];exact hw.z j hj
 have h1:=(i.lt g).2;obtain⟨p,rfl⟩:∃p,q=p+1:=⟨q-1,ω⟩
 simp only[Yk]at *
 have l:=zaY us k d;have m:B64^k*(p*nval vs)<=B64^k*nval (us.drop k):=Xp _ e;have a:B64^k*((p+1)*nval vs)=B64^k*(p*nval vs)+B64^k*nval vs:=ψ
 rw[a]at b;generalize B64^(k+vs.length+1)=P at *
 generalize B64^k*(p*nval vs)=x at *
 generalize B64^k*nval vs=y at *
 rcases ZM c 2 with hc | hc;rcases(show c=0\/c=1 by omega)with rfl | rfl<;>omega
 have:P*2<=P*c:=Xp _ hc;omega
/-! ### shifts -/
structure ShlInv (xs os:List Nat) (w s i:Nat):Prop where
  wds:Wds os
  zer:Zfrom os (i+w+1)
  low:os.getD (i+w) 0<2^s
  eq:nval os=nval (xs.take i)*2^s*B64^w

def ShlInv.start(xs:List Nat)(w s n:Nat):ShlInv xs (List.replicate n 0) w s 0 :=
 ⟨Wds.replicate n,(Zfrom.start n).mono ω,by rw[Zfrom.start n _ ω];grind,by simp[zbK,nval]⟩
def pow64_split(s:Nat)(a:s<=64):B64=2^s*2^(64-s):=by rw[<-XA,show s+(64-s)=64 by omega]
def zBe{o:Nat}(c:s<64)(b:o<2^s):o+x*2^s%B64<B64:=by
 have e:=pow64_split s ω;have h1:x*2^s%B64=2^s*(x%2^(64-s)):=by rw[e,ZO x,YG]
 have a:x%2^(64-s)<2^(64-s):=Z0 _ (Z3 δ);rw[h1,e];have:2^s*(x%2^(64-s)+1)<=2^s*2^(64-s):=Xp _ a;rw[XX,XB]at this;omega
def znR(a:x<B64):x*2^s/B64<2^s:=by rw[Xv δ,ZO];simp_all[Nat.mul_lt_mul_of_pos_left,Z3]
def zoZ(a:s<64):x/2^(64-s)=x*2^s/B64:=by have e:=pow64_split s ω;rw[e,ZO x,Nat.mul_div_mul_left _ _ (Z3 δ)]
def ShlInv.step{w i:Nat}(h:ShlInv xs os w s i)(q:Wds xs)(n:s<64)(d:i+w+1<os.length) :
  ShlInv xs ((os.set (i+w) (os.getD (i+w) 0+xs.getD i 0*2^s%B64)).set (i+w+1) (xs.getD i 0*2^s/B64)) w s (i+1):=by
 have r:=q.at_ i;have h1:=zBe (x:=xs.getD i 0) n h.low;have k:=znR (s:=s) r;have u:2^s<=B64:=by rw[pow64_split s ω];simp[Nat.le_mul_of_pos_right,Z3]
 refine⟨(h.wds.set _ _ h1).set _ _ ω,?_,?_,?_⟩;have t:Zfrom (os.set (i+w) (os.getD (i+w) 0+xs.getD i 0*2^s%B64)) (i+w+1):=by intro j hj;rw[zcU _ _ _ _ ω,if_neg ω];exact h.zer j hj
 have:=t.set (by rw[ZW];exact d) (xs.getD i 0*2^s/B64);grind;rw[show i+1+w=i+w+1 by omega,zcU _ _ _ _ (by rw[ZW];exact d),if_pos rfl];exact k;have s1:=zcV os (i+w) (os.getD (i+w) 0+xs.getD i 0*2^s%B64) ω;have s2:=zcV (os.set (i+w) (os.getD (i+w) 0+xs.getD i 0*2^s%B64)) (i+w+1) (xs.getD i 0*2^s/B64) (by rw[ZW];exact d);rw[zcU _ _ _ _ ω,if_neg ω,h.zer _ (Za _)]at s2;rw[zaG];have m:=h.eq;have l:=Xu (xs.getD i 0*2^s) B64;rw[Xg]at s2;have g:B64^(i+w)=B64^i*B64^w:=XA _ _ _;rw[g]at s1 s2;grind
theorem zxC(d:Wds xs)(i s:Nat)(o:s<64) :
  xs.getD i 0/2^s+xs.getD (i+1) 0*2^(64-s)%B64=nval xs/2^s/B64^i%B64:=by
 have h0:=d.at_ i;have e:nval xs/B64^i=xs.getD i 0+B64*(nval xs/B64^(i+1)):=by have:=Xu (nval xs/B64^i) B64;rw[zhQ xs d i];rw[Xg,<-Ym];omega
 have f:xs.getD (i+1) 0=nval xs/B64^(i+1)%B64:=zhQ xs d (i+1);rw[Ym,ZO (2^s),<-Ym,e,f];generalize nval xs/B64^(i+1)=R;have c:=pow64_split s ω;have n:xs.getD i 0/2^s<2^(64-s):=by rw[Xv (Z3 δ),ZO,<-c];exact h0
 generalize xs.getD i 0=x at *
 have g:(x+B64*R)/2^s=x/2^s+2^(64-s)*R:=by rw[c,Yb,YR _ _ (Z3 δ)]
 rw[g];have j:R%B64*2^(64-s)%B64=2^(64-s)*(R%2^s):=by
  have a1:R%B64*2^(64-s)%B64=R*2^(64-s)%B64:=by rw[Nat.mul_mod,Nat.mod_mod,<-Nat.mul_mod]
  rw[a1,c,ZO R,ZO (2^s),YG]
 rw[j];have k:x/2^s+2^(64-s)*R=(x/2^s+2^(64-s)*(R%2^s))+B64*(R/2^s):=by have:=Xu R (2^s);rw[c];grind
 rw[k,YQ];symm;apply Yn;have l:R%2^s<2^s:=Z0 _ (Z3 δ);have m:2^(64-s)*(R%2^s+1)<=2^(64-s)*2^s:=Xp _ l;rw[XX,XB,ZO _ (2^s),<-c]at m;omega
end Am

/- Plain lemmas: names for words and results,so that a walk does not take them apart. Conditions: as each says. -/
namespace Am
variable {a b hi k lo s x y:Nat}
def wd (xs:List Nat) (k:Nat):Nat:=xs.getD k 0
def zjj (x y c:Nat):Nat:=(x+y+c)%B64
def zlD (x y c:Nat):Nat:=(x+y+c)/B64
def zqC (x y c:Nat):Nat:=(x+(B64-y)+(B64-c))%B64
def zvv (x y c:Nat):Nat:=if x<y+c then 1 else 0
def zdw (x y a b:Nat):Nat:=(x*y+a+b)/B64
def zdo (x y a b:Nat):Nat:=(x*y+a+b)%B64
def zz9 (hi lo y:Nat):Nat:=(hi*B64+lo)/y
def zBV (hi lo y:Nat):Nat:=(hi*B64+lo)%y
def blen (x:Nat):Nat:=if x=0 then 0 else Nat.log2 x+1

theorem zdM{xs:List Nat}(h:Wds xs)(k:Nat):wd xs k<18446744073709551616:=h.at_ k
def ztQ(x y c:Nat):zjj x y c<18446744073709551616:=Z0 _ δ
def zBp(x y c:Nat):zqC x y c<18446744073709551616:=Z0 _ δ
def zBo(x y c:Nat):zvv x y c<=1:=by unfold zvv;split<;>omega
def zrG(x y a b:Nat):zdo x y a b<18446744073709551616:=Z0 _ δ
def zxp(e:x<18446744073709551616)(f:y<18446744073709551616)(c:a<18446744073709551616)(d:b<18446744073709551616):zdw x y a b<18446744073709551616:=by unfold zdw;rw[Xv δ];simp_all[zle]
def zAa(h:hi<y)(a:lo<18446744073709551616):zz9 hi lo y<18446744073709551616:=by unfold zz9;rw[Xv ω];have:(hi+1)*B64<=y*B64:=ZV _ h;grind
def zil{x k:Nat}:blen x<=k↔x<2^k:=by
 unfold blen;split
 rename_i h;subst h;exact⟨λ_=>Z3 δ,λ_=>Zb _⟩;grind[Nat.log2_lt]
def zhl(h:0<x):0<blen x:=by unfold blen;split<;>omega
def znL:k<blen x↔2^k<=x:=by have := @zil x k;omega
def zr2(h:x/2^k≠0):blen x=k+blen (x/2^k):=by
 apply YO;rw[zil,XA];have h1:x/2^k<2^blen (x/2^k):=zil.1 (Za _);rw[Xv (Z3 δ)]at h1
 rwa [ZO]
 have a:0<blen (x/2^k):=zhl (Ye h);have h1:blen (x/2^k)-1<blen (x/2^k):=ω
 rw[znL,Nat.le_div_iff_mul_le (Z3 δ),<-XA]at h1;have:=znL.2 h1;omega
def zr3(h:x<2):blen x=x:=by rcases(show x=0\/x=1 by omega)with rfl | rfl;rfl;decide
def zmT(h:x<18446744073709551616):blen x<=64:=by simp_all[zil]
def zsf(h0:0<y)(h:y<18446744073709551616):y*2^(64-blen y)<18446744073709551616/\9223372036854775808<=y*2^(64-blen y):=by
 have d:=zmT h;have e:=zhl h0;have h1:y<2^blen y:=zil.1 (Za _);have c:2^(blen y-1)<=y:=znL.1 ω;have a:(18446744073709551616:Nat)=2^blen y*2^(64-blen y):=by rw[<-XA,show blen y+(64-blen y)=64 by omega]
 have b:(9223372036854775808:Nat)=2^(blen y-1)*2^(64-blen y):=by rw[<-XA,show blen y-1+(64-blen y)=63 by omega]
 simp_all[Vy,Z3,ZV]
def zvp(b:s<64)(a:lo<18446744073709551616)(c:hi<y) :
  (hi*B64+lo)*2^s=(hi*2^s+lo*2^s/B64)*B64+lo*2^s%B64/\hi*2^s+lo*2^s/B64<y*2^s:=by
 have h1:=Xu (lo*2^s) B64;have d:=znR (s:=s) a;have _:=b;constructor;rw[XE];grind;have:(hi+1)*2^s<=y*2^s:=ZV _ c;rw[XE]at this;omega
def zj9(x:Nat):x&&&4294967295=x%4294967296:=by have:=Nat.and_two_pow_sub_one_eq_mod x 32;omega
def ztU(x:Nat):x&&&1=x%2:=ψ
def zyy(c:a<2^s):b*2^s|||a=b*2^s+a:=by rw[ZO];grind[Nat.two_pow_add_eq_or_of_lt]
def zvd(c:a<2^s):a|||b*2^s=a+b*2^s:=by rw[Nat.or_comm,zyy c];omega
def zDH(x y:Nat)(g:x<18446744073709551616)(i:y<18446744073709551616) :
  (x/4294967296)*(y/4294967296)+((x/4294967296)*(y%4294967296)+(x%4294967296)*(y%4294967296)/4294967296)/4294967296
   + (((x/4294967296)*(y%4294967296)+(x%4294967296)*(y%4294967296)/4294967296)%4294967296+(x%4294967296)*(y/4294967296))/4294967296=x*y/B64:=by
 have c:x/4294967296<4294967296:=ω
 have e:y/4294967296<4294967296:=ω
 have b:x%4294967296<4294967296:=Z0 _ δ;have d:y%4294967296<4294967296:=Z0 _ δ;have ex:x%4294967296+4294967296*(x/4294967296)=x:=ω
 have a:y%4294967296+4294967296*(y/4294967296)=y:=ω
 have h:=zu6 (x%4294967296) (x/4294967296) (y%4294967296) (y/4294967296) b c d e;rw[ex,a]at h;grind
end Am

/- Plain lemmas: the steps again,in the walk's own names. Conditions: as each says. -/
namespace Am
variable {os us vs xs ys:List Nat}{bor c i j k over q x:Nat}
def AddInv.next(h:AddInv xs ys os k c)(hk:k<os.length)(a:Wds xs)(b:Wds ys) :
  AddInv xs ys (os.set k (zjj (wd xs k) (wd ys k) c)) (k+1) (zlD (wd xs k) (wd ys k) c):=by
 unfold zjj zlD wd;exact h.step hk a b
def SubInv.next(h:SubInv xs ys os k c)(hk:k<os.length)(a:Wds xs)(b:Wds ys) :
  SubInv xs ys (os.set k (zqC (wd xs k) (wd ys k) c)) (k+1) (zvv (wd xs k) (wd ys k) c):=by
 unfold zqC zvv wd;exact h.step hk a b
def MulInv.next{base:Nat}(h:MulInv base ys os i x k over)(b:x<18446744073709551616)(c:Wds ys)(hk:k<ys.length)(a:i+ys.length<=os.length) :
  MulInv base ys (os.set (i+k) (zdo x (wd ys k) (wd os (i+k)) over)) i x (k+1) (zdw x (wd ys k) (wd os (i+k)) over):=by
 unfold zdo zdw wd;exact h.step b c hk a
def SchInv.next{a:List Nat}(h:SchInv xs ys os i)(m:MulInv (nval os) ys a i (wd xs i) ys.length over)(b:i+ys.length<a.length) :
  SchInv xs ys (a.set (i+ys.length) over) (i+1):=h.leave m b
def DivWInv.next{left:Nat}(h:DivWInv xs os x (k+1) left)(hk:k<os.length)(a:Wds xs) :
  DivWInv xs (os.set k (zz9 left (wd xs k) x)) x k (zBV left (wd xs k) x):=by
 unfold zz9 zBV wd;exact h.step hk a
def TakeInv.next(h:TakeInv us os vs k q j over bor)(b:q<18446744073709551616)(c:Wds vs)(a:k+j<us.length) :
  TakeInv us (os.set (k+j) (zqC (wd os (k+j)) (zdo (wd vs j) q over 0) bor)) vs k q (j+1) (zdw (wd vs j) q over 0) (zvv (wd os (k+j)) (zdo (wd vs j) q over 0) bor):=by
 have e:wd os (k+j)=us.getD (k+j) 0:=h.out.2 _ (.inr (Za _));rw[e];unfold zqC zvv zdo zdw wd;exact h.step b c a
def TakeInv.fin(h:TakeInv us os vs k q vs.length over bor)(a:k+vs.length<us.length) :
  Wds (os.set (k+vs.length) (zqC (wd os (k+vs.length)) over bor))/\za8 us (os.set (k+vs.length) (zqC (wd os (k+vs.length)) over bor)) k (k+vs.length+1) /\
  nval (os.set (k+vs.length) (zqC (wd os (k+vs.length)) over bor))+B64^k*(q*nval vs)=nval us+B64^(k+vs.length+1)*zvv (wd os (k+vs.length)) over bor:=by
 have e:wd os (k+vs.length)=us.getD (k+vs.length) 0:=h.out.2 _ (.inr (Za _));rw[e];unfold zqC zvv;exact h.last a
def BackInv.next(h:BackInv us os vs k j c)(b:Wds vs)(a:k+j<us.length) :
  BackInv us (os.set (k+j) (zjj (wd os (k+j)) (wd vs j) c)) vs k (j+1) (zlD (wd os (k+j)) (wd vs j) c):=by
 have e:wd os (k+j)=us.getD (k+j) 0:=h.out.2 _ (.inr (Za _));rw[e];unfold zjj zlD wd;exact h.step b a
def BackInv.fin(h:BackInv us os vs k vs.length c)(a:k+vs.length<us.length) :
  Wds (os.set (k+vs.length) (zjj (wd os (k+vs.length)) c 0))/\za8 us (os.set (k+vs.length) (zjj (wd os (k+vs.length)) c 0)) k (k+vs.length+1) /\
  ∃b,nval (os.set (k+vs.length) (zjj (wd os (k+vs.length)) c 0))+B64^(k+vs.length+1)*b=nval us+B64^k*nval vs:=by
 have e:wd os (k+vs.length)=us.getD (k+vs.length) 0:=h.out.2 _ (.inr (Za _));rw[e];unfold zjj;exact h.last a
def zxB (o x s:Nat):Nat:=o+x*2^s%B64
def zBd (x s:Nat):Nat:=x*2^s/B64
def ShlInv.next{w s:Nat}(h:ShlInv xs os w s i)(c:Wds xs)(b:s<64)(a:i+w+1<os.length) :
  ShlInv xs ((os.set (i+w) (zxB (wd os (i+w)) (wd xs i) s)).set (i+w+1) (zBd (wd xs i) s)) w s (i+1):=by
 unfold zxB zBd wd;exact h.step c b a
def zBf (x y s:Nat):Nat:=x/2^s+y*2^(64-s)%B64
def zBg(b:Wds xs)(i s:Nat)(a:s<64):zBf (wd xs i) (wd xs (i+1)) s=nval xs/2^s/B64^i%B64:=by unfold zBf wd;grind[zxC]
