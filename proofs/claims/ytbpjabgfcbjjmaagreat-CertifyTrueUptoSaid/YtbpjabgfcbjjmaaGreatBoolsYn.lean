/- Contracts and lemmas: Bools DuA Vec10 PrE DuC Law2 Law2b AppV Fr. Conditions: as each says. -/
import Derived.Laws.Cover1
import Derived.Test.YtbpjabgfcbjjmaaGreatMat4Yn
set_option linter.all false
set_option maxHeartbeats 4000000
set_option maxRecDepth 100000
namespace Go.Proofs.YtbpjabgfcbjjmaaGreat
open Go.RowKit Am Tryz
variable {cs:Array Value}{may:List Bool}{ps:List PRow}{l:List RR}{cost p qs:List Rat}{xs:List Value}{H N a b c cap k n pb size:Nat}{A:OA}{q:Rat}{e t:TypeId}{C v:Value}{w w' w0 wz:World}
def zuV:(prog.info? 4).map (λi=>(i.zero,i.size,i.bytes))=some (some (.bool false),1,1):=ξ
def tcells (xs:List Bool):List Value:=xs.map λx=>.bool x
structure BoolsS (w:World) (H:Nat) (v:Value) (xs:List Bool):Prop where
  own:w.ownsRow H 4 1 v xs.length (tcells xs)
namespace BoolsS
variable {w w':World} {H:Nat} {v:Value} {xs:List Bool}
def keep(h:BoolsS w H v xs)(hk:∀k,v.ownBlock=some k->w'.heap[k]? = w.heap[k]?):BoolsS w' H v xs:=⟨zc9 h.own hk⟩
def below(h:BoolsS w H v xs)(a:Below w w w'):BoolsS w' H v xs:=h.keep λk hk=>a.block k (h.own.lt k hk).2
def alloc(h:BoolsS w H v xs)(o:Obj):BoolsS (w.alloc o) H v xs:=h.below (zae w o)
def drew(h:BoolsS w H v xs):BoolsS w.drew H v xs:=h.below (zap w 1)
def base(h:BoolsS w H v xs)(b:a<=H):BoolsS w a v xs:=⟨zbu h.own b⟩
def tk(h:BoolsS w H v xs)(hk:TKeep t w w')(h1:4≠t):BoolsS w' H v xs :=
 h.keep λk a=>hk k (h.own.lt k a).2 λcs e=>za6 h.own e h1 a
def kept{T:List TypeId}{b:Option Nat}(h:BoolsS w H v xs)(hk:Kept T b w w')(h1:4 ∉ T):BoolsS w' H v xs:=by
 refine h.keep λk a=>?_;rcases h.own.2 with ⟨rfl,_⟩ | ⟨g',cap,cur,rfl,_,c,_⟩
 cases a;injection a with a;subst a;rw[c];exact hk.blk c h1 δ
def form(h:BoolsS w H (A,n,c) xs):n=xs.length/\n<=c/\c<=maxLen/\((A=none/\c=0/\xs=[])\/∃g,A=some ⟨g,0,none⟩/\H<=g/\g<w.heap.size):=by
 rcases h.own.2 with ⟨b,a⟩ | ⟨g,cap,cur,b,hg,d,a,hm,_⟩
 injection b with e1 e2 e3;subst e1 e2 e3;exact⟨a.symm,Za _,Zb _,.inl ⟨rfl,rfl,Xo.1 a⟩⟩;grind
def len(h:BoolsS w H (A,n,c) xs):n=xs.length:=h.form.1
def has(h:BoolsS w H (A,n,c) xs)(e:0<n):∃g,A=some ⟨g,0,none⟩/\H<=g/\g<w.heap.size:=by obtain⟨h1,b,d,a | a⟩:=h.form;omega;exact a
def slice(h:BoolsS w H v xs):∃A c,v=.slice A xs.length c:=by
 rcases h.own.2 with ⟨a,b⟩ | ⟨g,cap,cur,a,_⟩
 exact⟨_,_,by rw[a,b]⟩;grind
def fro(h:BoolsS w H (b,n,c) xs)(j:Nat):w.frozen? ⟨b,j,none⟩=false:=by have a:=h.len;subst a;exact h.own.frozenAt j
def at_(h:BoolsS w H (b,n,c) xs){x:Bool}(hk:xs[k]? = some x):χ w b k (.bool x):=by have a:=h.len;subst a;have d:=(ZF.1 hk).1;rw[h.own.cellAt _ ω];simp[tcells,hk]
def store(h:BoolsS w H (b,n,c) xs)(k:Nat)(x:Bool):BoolsS (w.setCell ⟨b,k,none⟩ x) H (b,n,c) (xs.set k x):=by have a:=h.len;subst a;refine⟨?_⟩;have:=(h.own.stored k x).1;rw[ZW];simpa[tcells,Vf]using this
end BoolsS
def zgu (w:World) (A:OA) (xs:List Bool):Prop:=∀(k:Nat) (x:Bool),xs[k]? = some x->∃b o,A=some ⟨b,o,none⟩/\χ w b (o+k) (.bool x)
def zgu.below{xs:List Bool}(h:zgu w A xs)(a:Below w w w'):zgu w' A xs:=λk x hk=>by obtain⟨b,o,e,hc⟩:=h k x hk;grind[zab]
def BoolsS.reads{xs:List Bool}(h:BoolsS w H (A,n,c) xs):zgu w A xs:=λk x hk=>by have a:=(ZF.1 hk).1;obtain⟨g,rfl,_,_⟩:=h.has (by rw[h.len];omega);exact⟨g,0,rfl,by rw[Xc];exact h.at_ hk⟩
attribute [local go_sem ↓] Go.wp_at_zero Go.wp_at_succ
def zsy(n:Nat):(madeCells (Value.bool false).cells (n*1)).toList=tcells (List.replicate n false):=by apply Xf;intro j;rw[show(Value.bool false).cells=#[.bool false]from rfl,XB];by_cases hj:j<n;simp[madeCells,tcells,hj,Nat.mod_one];simp[madeCells,tcells,hj]
def zf8{ops:Array Oper}{rest:List Oper}{o:Oper}{a:Act}{Q:Exit->Act->World->Prop}
  (hg:o.guard=none) (l c:Operand) (j:o.op=Op.makeSlice 126 l c) (n:Nat) (L:Int) (i:a.eval l=.int .i64 L) (hc:a.eval c=.int .i64 L) (f:L=(n:Int)) (s:n<=1048576) (H:Nat) (d:w.heap.size=H)
  (e:∀w1,BoolsS w1 w (H,n,n) (List.replicate n false)->Below w w w1->wpList prog ops Q rest (a.put o.dst (H,n,n)) w1):wpList prog ops Q (o::rest) a w:=by
 obtain⟨r,hi,m,p,q⟩:=info_parts zuV;subst d;subst f;refine wpList_make_full w hg l c 126 j w.heap.size 4 r _ 1 underlying126 hi m p .i64 .i64 n n n i hc rfl rfl (by rw[q];omega) (by unfold maxLen;omega) (Za _) ?_;intro w1 b g;rw[zsy]at b;exact e w1 ⟨by rw[ZQ];exact b⟩ ((Zl _ _).grown g (Za _) (λk hk=>by cases hk))
def zsn (n k:Nat):List Bool:=List.replicate k true++List.replicate (n-k) false
def zhU(n:Nat):zsn n 0=List.replicate n false:=by simp[zsn]
def zjB(n:Nat):zsn n n=List.replicate n true:=by simp[zsn]
def zoQ(h:k<n):(zsn n k).set k true=zsn n (k+1):=by unfold zsn;rw[Yq,if_neg (by rw[ZQ];omega),ZQ,Xz,show n-k=(n-(k+1))+1 by omega,Yu,List.set_cons_zero,Yi (n:=k),XU];rfl
def zrF(h:k<n):(zsn n k)[k]? = some false:=by unfold zsn;rw[ZN (by rw[ZQ];omega),ZQ,Xz,Z9,if_pos ω]
namespace Du
theorem zzg(n:Nat)(x:n<=64)(y:0<n)(w:World):Calls prog 93 #[(n:Int)] w λe w'=>∃A,e=.returned (.slice A n n)/\BoolsS w' w (.slice A n n) (List.replicate n true)/\Below w w w':=by
 have u:min (n:Int) 64=(n:Int):=ω;have t:max (0:Int) (n:Int)=(n:Int):=ω;have s:¬((64:Int)<(n:Int)):=ω;go_enter func93,ntmps93;go_wp2_with (at_make;go_must (refine zf8 rfl _ _ rfl n _ rfl rfl rfl ω w.heap.size rfl ?_;intro w1 j f;have o:=un j;have m:=un f))
 go_loopw [11] (λi wr=>∃k:Nat,i=.int .i64 k/\k<=n/\BoolsS wr w (w.heap.size,n,n) (zsn n k)/\Below w w wr)
  (λi _=>n-(intOf i).toNat)
 case atStart=>exact⟨0,rfl,Zb _,by rw[zhU];exact o.o,m.o⟩
 obtain⟨k,rfl,hk,a,d⟩:=hrel;have c:=un a;have b:=un d;by_cases g:k<n
 ·have y0:=a.at_ (zrF g);have z:=a.fro k;have q:(0:Int)<=(k:Int):=Zg _;have r:(k:Int)<(n:Int):=ω
  go_wp2;go_roundw
  case rel=>exact⟨k+1,by go_num,ω,by rw[<-zoQ g];exact c.o.store k true,b.o.setCell (p:=⟨w,k,none⟩) (Za _) _⟩
  case measure=>simp[intOf];omega
 obtain rfl:n=k:=ω;go_wp2;go_ret;exact⟨_,rfl,by have h:=c.o;rw[zjB]at h;exact h,b.o⟩
theorem zwa(w:World):Calls prog 93 #[.int .i64 0] w λe w'=>∃A,e=.returned (.slice A 0 0)/\BoolsS w' w (.slice A 0 0) []/\Below w w w':=by

 go_enter func93,ntmps93;go_wp2_with (at_make;go_must (refine zf8 rfl _ _ rfl 0 _ rfl rfl rfl ω w.heap.size rfl ?_;intro w1 c b;have j:=un c;have g:=un b))
 go_loopw [11] (λi wr=>∃k:Nat,i=.int .i64 k/\k<=0/\BoolsS wr w (.slice (some ⟨w,0,none⟩) 0 0) (zsn 0 k)/\Below w w wr)
  (λi _=>0-(intOf i).toNat)
 case atStart=>exact⟨0,rfl,Zb _,by rw[zhU];exact j.o,g.o⟩
 obtain⟨k,rfl,hk,d,a⟩:=hrel;have m:=un d;have f:=un a;by_cases n:k<0;exact absurd n (ZS _);obtain rfl:k=0:=ω;go_wp2;go_ret;exact⟨_,rfl,by have h:=m.o;rw[zjB]at h;exact h,f.o⟩
def all(n:Nat)(a:n<=64)(w:World):Calls prog 93 #[(n:Int)] w λe w'=>∃A,e=.returned (.slice A n n)/\BoolsS w' w (.slice A n n) (List.replicate n true)/\Below w w w':=by grind[Nat.eq_zero_or_pos,zwa,zzg]
end Du
def zoD{xs:List Rat}{k:Nat}(hk:el xs k≠0):∀(f s:Nat),s<=k->k<s+f->(∀j,s<=j->j<k->el xs j=0)->zkZ xs f s=some k
 | 0,s,h1,h2,_=>ω
 | f+1,s,h1,h2,hz=>by unfold zkZ;by_cases e:s=k;subst e;rw[if_neg hk];rw[if_pos (hz s (Za _) ω)];exact zoD hk f (s+1) ω ω λj a b=>hz j ω b
def zk0{xs:List Rat}:∀(f s:Nat),(∀j,s<=j->j<s+f->el xs j=0)->zkZ xs f s=none
 | 0,_,_=>rfl
 | f+1,s,hz=>by unfold zkZ;rw[if_pos (hz s (Za _) ω)];exact zk0 f (s+1) λj a b=>hz j ω ω
def zbh:Option Nat->Int
  | none => -1
  | some k=>(k:Int)
namespace Vc
def first(A:OA)(n c:Nat)(qs:List Rat)(H:Nat)(w:World)(h:VecS w H (A,n,c) qs) :
  Calls prog 157 #[(A,n,c)] w λe w'=>e=.returned (.int .i64 (zbh (zkZ qs n 0)))/\Below w w w':=by
 have t:=h.len;have hf:=h.form;have z:=un t;have D:=un h;have Q:n<=9223372036854775807:=by have G:=hf.2.2.1;unfold maxLen at G;omega
 clear h hf t;go_enter func157,ntmps157;go_wp2
 go_loopw [7] (λi wr=>∃k:Nat,i=.int .i64 k/\k<=n/\Below w w wr/\∀j,j<k->el qs j=0)
  (λi _=>n-(intOf i).toNat)
 case atStart=>exact⟨0,rfl,Zb _,Zl _ _,λj hj=>absurd hj (ZS _)⟩
 obtain⟨k,rfl,hk,f,m⟩:=hrel;have o:=un f;have q:=un m;by_cases I:k<n
 ·have r:=un (D.o.below f);obtain⟨b,rfl,M,N⟩:=r.o.has ω;have u:=zaH (xs:=qs) (j:=k) (by rw[<-z.o];exact I);obtain⟨g,x,K,E,y,L,F,S,T,k2,s⟩:=r.o.at_ u;have B:=un s;have O:(0:Int)<=(k:Int):=Zg _;have P:(k:Int)<(n:Int):=ω
  clear f m s u;go_wp2_with fail
  refine(Rt.zero g x K E y L F (el qs k) _ (B.o.alloc _)).mono ?_;rintro e U ⟨rfl,hb⟩;have p:=un (o.o.trans (((zae wr _).trans (hb.mono σ)).mono o.o.size));clear hb;by_cases a:el qs k=0
  ·have J:zr (el qs k)=true:=ZG a;have d:=un (show ∀j,j<k+1->el qs j=0 from λj hj=>by by_cases e:j=k;rw[e];exact a;exact q.o j ω)
   clear a;go_wp2;go_roundw
   case rel=>exact⟨k+1,by go_num,ω,p.o,d.o⟩
   case measure=>simp[intOf];omega
  have J:zr (el qs k)=false:=ZJ a;have d:=un (zoD a n 0 (Zb _) ω λj _ hj=>q.o j hj);clear a;go_wp2;go_ret;exact⟨by rw[d.o];rfl,p.o⟩
 obtain rfl:n=k:=ω;have d:=un (zk0 (xs:=qs) n 0 λj _ hj=>m j ω);clear f m;go_wp2;go_ret;exact⟨by rw[d.o];rfl,o.o⟩
end Vc
def zkH{p:List Rat}{may:List Bool}{k:Nat}(hk:may.getD k false=true/\el p k<0):∀(f s:Nat),s<=k->k<s+f->(∀j,s<=j->j<k->¬(may.getD j false=true/\el p j<0))->zfV p may f s=some k
 | 0,s,h1,h2,_=>ω
 | f+1,s,h1,h2,hz=>by unfold zfV;by_cases e:s=k;subst e;rw[if_pos hk];rw[if_neg (hz s (Za _) ω)];exact zkH hk f (s+1) ω ω λj a b=>hz j ω b
def zhz{p:List Rat}{may:List Bool}:∀(f s:Nat),(∀j,s<=j->j<s+f->¬(may.getD j false=true/\el p j<0))->zfV p may f s=none
 | 0,_,_=>rfl
 | f+1,s,hz=>by unfold zfV;rw[if_neg (hz s (Za _) ω)];exact zhz f (s+1) λj a b=>hz j ω ω
def zeh:q.num<0↔q<0:=by have h:=Y5 (q:=q);grind
def zrN(h:q<0):q.num.sign<0:=by rw[YZ (zeh.2 h)];decide
def zrO(h:¬q<0):0<=q.num.sign:=by
 have a:¬q.num<0:=λe=>h (zeh.1 e)
 grind
namespace Pr
def z6d(A:OA)(n cA:Nat)(ps:List Rat)(H:Nat)(M:OA)(f T:Nat)(may:List Bool)(w:World)(h:VecS w H (A,n,cA) ps)(hm:zgu w M may)(J:f=may.length)(ag:f<=9223372036854775807) :
  Calls prog 119 #[(A,n,cA),(M,f,T)] w λe w'=>e=.returned (.int .i64 (zbh (zdi ps may)))/\Below w w w':=by
 have z:=un h.len;have B:=un J;have hf:=h.form;have ah:n<=9223372036854775807:=by have h1:=hf.2.1;have U:=hf.2.2.1;unfold maxLen at U;omega
 have S:=un h;have N:=un hm;clear h hm hf J;go_enter func119,ntmps119;go_wp2
 go_loopw [9] (λi wr=>∃k:Nat,i=.int .i64 k/\k<=n/\Below w w wr/\∀j,j<k->¬(may.getD j false=true/\el ps j<0))
  (λi _=>n-(intOf i).toNat)
 case atStart=>exact⟨0,rfl,Zb _,Zl _ _,λj hj=>absurd hj (ZS _)⟩
 obtain⟨k,rfl,hk,s,x⟩:=hrel;have d:=un s;have D:=un x;by_cases X:k<n
 ·have E:=un (S.o.below s);have O:=un (N.o.below s);obtain⟨b,rfl,ab,ac⟩:=E.o.has ω;have K:=zaH (xs:=ps) (j:=k) (by rw[<-z.o];exact X);obtain⟨g,o,t,q,p,u,r,k0,k1,k2,G⟩:=E.o.at_ K;have Q:=un G;have ad:(0:Int)<=(k:Int):=Zg _;have ae:(k:Int)<(n:Int):=ω
  clear s x G K;have y:=un (show ¬(may.getD k false=true/\el ps k<0)->∀j,j<k+1->¬(may.getD j false=true/\el ps j<0)from λh j hj=>by by_cases e:j=k;rw[e];exact h;exact D.o j ω);by_cases W:k<f
  ·have V:decide (k<f)=true:=by simp;omega
   have af:(k:Int)<(f:Int):=ω;have I:may[k]? = some (may.getD k false):=zaO (by rw[<-B.o];exact W);obtain⟨F,L,rfl,y0⟩:=O.o k _ I;clear I;cases hmv:may.getD k false with
   | false =>
    rw[hmv]at y0;have aa:χ (wr.alloc (.cells #[g,(o,t,q),(p,u,r)] 62)) F (L+k) (.bool false):=cell_al y0;have a:=un (y.o (by rw[hmv];intro h;cases h.1));have m:=un (d.o.trans ((zae wr (.cells #[g,(o,t,q),(p,u,r)] 62)).mono d.o.size));clear hmv;go_wp2;go_roundw
    case rel=>exact⟨k+1,by go_num,ω,m.o,a.o⟩
    case measure=>simp[intOf];omega
   | true =>
    rw[hmv]at y0;have aa:χ (wr.alloc (.cells #[g,(o,t,q),(p,u,r)] 62)) F (L+k) (.bool true):=cell_al y0;have P:=un hmv;clear hmv;go_wp2_with fail
    refine(Rt.sign g o t q p u r (el ps k) _ (Q.o.alloc _)).mono ?_;rintro e w2 ⟨rfl,hb⟩;have m:=un (d.o.trans (((zae wr _).trans (hb.mono σ)).mono d.o.size));clear hb;by_cases c:el ps k<0
    ·have Y:=zrN c;have Z:=zeh.2 c;have a:=un (show zdi ps may=some k from zkH ⟨P.o,c⟩ ps.length 0 (Zb _) (by rw[<-z.o];omega) λj _ hj=>D.o j hj);clear c;go_wp2;go_ret
     exact⟨by rw[a.o];rfl,m.o⟩
    have Y:=zrO c;have Z:¬(el ps k).num<0:=λe=>c (zeh.1 e)
    have a:=un (y.o (λh=>c h.2));clear c;go_wp2;go_roundw
    case rel=>exact⟨k+1,by go_num,ω,m.o,a.o⟩
    case measure=>simp[intOf];omega
  have V:decide (k<f)=false:=by simp;omega
  have a:=un (y.o (λh=>by
   have:may.getD k false=false:=by rw[Zh,Xl (by rw[<-B.o];omega)];rfl
   rw[this]at h;cases h.1))
  have m:=un (d.o.trans ((zae wr (.cells #[g,(o,t,q),(p,u,r)] 62)).mono d.o.size));go_wp2;go_roundw
  case rel=>exact⟨k+1,by go_num,ω,m.o,a.o⟩
  case measure=>simp[intOf];omega
 obtain rfl:n=k:=ω;have a:=un (show zdi ps may=none from zhz ps.length 0 λj _ hj=>x j (by rw[z.o];omega));clear s x;go_wp2;go_ret;exact⟨by rw[a.o];rfl,d.o⟩
def enter(A:OA)(n cA:Nat)(ps:List Rat)(H:Nat)(M:OA)(b a:Nat)(may:List Bool)(c:Nat)(w:World)(h:VecS w H (A,n,cA) ps)(hm:BoolsS w c (M,b,a) may) :
  Calls prog 119 #[(A,n,cA),(M,b,a)] w λe w'=>e=.returned (.int .i64 (zbh (zdi ps may)))/\Below w w w' :=
 z6d A n cA ps H M b a may w h hm.reads hm.len (by have h1:=hm.form.2.1;have d:=hm.form.2.2.1;unfold maxLen at d;omega)
end Pr
def zdV{l:List Rat}(h:¬(may.getD k false=true/\el l k<0)):za4 p l may (k+1)=za4 p l may k:=by simp only[za4];rw[if_neg h]
def zkI{l:List Rat}(h:may.getD k false=true/\el l k<0)(e:za4 p l may k=none):za4 p l may (k+1)=some k:=by simp only[za4];rw[if_pos h,e]
def zl1{l:List Rat}(h:may.getD k false=true/\el l k<0)(e:za4 p l may k=some b)(a:el p k / -el l k<el p b / -el l b):za4 p l may (k+1)=some k:=by simp only[za4];rw[if_pos h,e];simp only;rw[if_pos a]
def zl0{l:List Rat}(h:may.getD k false=true/\el l k<0)(e:za4 p l may k=some b)(a:¬el p k / -el l k<el p b / -el l b):za4 p l may (k+1)=some b:=by simp only[za4];rw[if_pos h,e];simp only;rw[if_neg a]
def zhA{l:List Rat}(h:za4 p l may k=some b):b<k:=by have s:=zdW p l may k;rw[h]at s;exact s.1
def zyw(a b:Rat):mw (a/b)<=mw a+mw b:=by rw[Xa];have:=zdI a b⁻¹;have:=zva b;omega
def zm9{a b:Rat}:zlX a b<0↔a<b:=by unfold zlX;grind
def zDK(h:q<0) : -q≠0:=ψ
namespace Du
def enter(S:Nat)(hS:16*S+8<=LIM)(A:OA)(n cA:Nat)(ps:List Rat)(H:Nat)(B:OA)(X cB:Nat)(ls:List Rat)(H':Nat)(M:OA)(Y cm:Nat)(may:List Bool)(w:World)(F:VecS w H (A,n,cA) ps)(hl:VecS w H' (B,X,cB) ls)(bf:Y=may.length)(cy:Y<=9223372036854775807)(hm:zgu w M may)(zp:∀q∈ps,mw q<=S)(zl:∀q∈ls,mw q<=S) :
  Calls prog 151 #[(A,n,cA),(B,X,cB),(M,Y,cm)] w λe w'=>e=.returned (.int .i64 (zbh (zhy ps ls may)))/\Below w w w':=by
 refine μ9 F.len hl.len bf F hl hm hS zp zl λaF aD aE a0 aW aY a4 ZP ZL=>?_;have bQ:n<=9223372036854775807:=by have h1:=F.form.2.1;have h2:=F.form.2.2.1;unfold maxLen at h2;omega
 have cx:X<=9223372036854775807:=by have h1:=hl.form.2.1;have h2:=hl.form.2.2.1;unfold maxLen at h2;omega
 clear zp zl hS F hl hm bf;obtain⟨N,hN⟩:∃N,N=min n (min X Y):=⟨_,rfl⟩
 have HN:=un hN;have ci:N<=n:=ω;have cj:N<=X:=ω;have ck:N<=Y:=ω;clear hN;go_enter func151,ntmps151;go_upto_region 3 with fail
 go_cut[18,19] (λa b wr=>a=.int .i64 (N:Int)/\b=.int .i64 0/\wr=w.alloc (.cells #[false,(),()] 62))
 case first =>
  go_wp2
  all_goals
   go_meet
   case rel=>exact⟨by congr 1;have:=HN.o;omega,rfl,rfl⟩
 obtain⟨rfl,rfl,rfl⟩:=hcut;go_wp2
 go_loopw [7,19] (λbv i wr=>∃(k:Nat) (u:Bool) (m:OA) (y s:Nat) (o:OA) (x r:Nat),i=.int .i64 k/\bv=.int .i64 (zbh (za4 ps ls may k))/\k<=N/\θ wr w.heap.size #[u,(m,y,s),(o,x,r)] 62/\(∀b,za4 ps ls may k=some b->RatS wr u (m,y,s) (o,x,r) (el ps b / -el ls b))/\Below w w wr)
  (λ_ i _=>N-(intOf i).toNat)
 case atStart=>exact⟨0,_,_,_,_,_,_,_,rfl,rfl,Zb _,zal _ _ _,λb h=>(by cases h),zae w _⟩
 obtain⟨k,u,m,y,s,o,x,r,rfl,rfl,hk,aL,hP,U⟩:=hrel;by_cases cw:k<N
 ·have bO:k<n:=ω
  have bP:k<X:=ω;have bd:k<Y:=ω;obtain⟨D,rfl,_,_⟩:=a0.o.has ω;obtain⟨z,rfl,_,_⟩:=aW.o.has ω;obtain⟨bm,om,rfl,_⟩:=aY.o k _ (zaO (L:=may) (d:=false) (by rw[<-aE.o];exact bd));have aN:=zaH (xs:=ps) (j:=k) (by rw[<-aF.o];exact bO);have aM:=zaH (xs:=ls) (j:=k) (by rw[<-aD.o];exact bP);have be:may[k]? = some (may.getD k false):=zaO (by rw[<-aE.o];exact bd);obtain⟨ga,Aa,ma,ca,Da,aq,aj,y0,y1,y2,bb⟩:=(a0.o.below U).at_ aN;obtain⟨gb,Z,mb,cb,Db,af,ac,z0,z1,z2,bc⟩:=(aW.o.below U).at_ aM;obtain⟨ch,cE,aK,m0⟩:=(aY.o.below U) k _ be;injection aK with aK;injection aK with hbm1 hbm2;subst hbm1 hbm2;generalize hme:may.getD k false=mv at m0;have av:=ZP.o _ (Zj aN);have aw:=ZL.o _ (Zj aM);refine μ4 (show RatS wr ga (Aa,ma,ca) (Da,aq,aj) (el ps k)from bb) (show RatS wr gb (Z,mb,cb) (Db,af,ac) (el ls k)from bc) (show ∀b,za4 ps ls may k=some b->RatS wr u (m,y,s) (o,x,r) (el ps b / -el ls b)from hP) (show Bel w wr from Bel.mk U) λbD a2 bA HW=>?_;have bg:χ wr D (k*3) (.bool ga):=y0;have bh:χ wr D (k*3+1) (Aa,ma,ca):=y1;have bi:χ wr D (k*3+2) (Da,aq,aj):=y2;have bj:χ wr z (k*3) (.bool gb):=z0;have bk:χ wr z (k*3+1) (Z,mb,cb):=z1;have bn:χ wr z (k*3+2) (Db,af,ac):=z2;have aA:χ wr bm (om+k) (.bool mv):=m0;have bW:=zaa aA;have aC:=bA;have a8:=un aL;have bg:=y0;have bh:=y1;have bi:=y2;have bj:=z0;have bk:=z1;have bn:=z2;have aA:=m0;have bW:=zaa aA;refine μ3 hme av aw λaX a6 a7=>?_;have co:(0:Int)<=(k:Int):=Zg _;have cp:(k:Int)<(N:Int):=ω;have cq:(k:Int)<(n:Int):=ω;have cr:(k:Int)<(X:Int):=ω;have ct:(k:Int)<(Y:Int):=ω;clear aL hP U aN aM be hme y0 y1 y2 z0 z1 z2 m0 bb bc av aw;cases mv with
  | false =>
   have f:=un (zdV (p:=ps) (l:=ls) (may:=may) (k:=k) (by rw[aX.o];intro h;cases h.1));go_wp2;go_roundw
   case rel=>exact⟨k+1,u,m,y,s,o,x,r,by go_num,by rw[f.o],ω,a8.o,λb h=>by rw[f.o]at h;exact aC.o b h,HW.o.b⟩
   case measure=>simp[intOf];omega
  | true =>
   go_wp2_with fail
   refine(Rt.sign gb Z mb cb Db af ac (el ls k) _ a2.o).mono ?_
   rintro e v1 ⟨rfl,hb⟩;refine μ4 (zad hb a8.o) (bD.o.below hb) (a2.o.below hb) (HW.o.below hb) λaT ce cf br=>?_;obtain⟨bY,_,_,_,bZ,_,_,_,b3,_⟩:=bf3 aT.o;have b1:=zab hb bg;have b2:=zab hb bh;have b4:=zab hb bi;have b5:=zab hb bj;have b6:=zab hb bk;have b7:=zab hb bn;have b8:=zab hb aA;have aV:=un hb;clear hb;by_cases G:el ls k<0
   ·have hs:=zrN G;have bS:=zeh.2 G;have cz:¬0<=el ls k:=Rat.not_le.2 G;refine μ3 (zDK G) (show may.getD k false=true/\el ls k<0 from⟨aX.o,G⟩) (show 4*(mw (el ps k)+mw (-el ls k))+8<=LIM by rw[zhY];have:=a4.o;have:=a6.o;have:=a7.o;omega) λbC aB bz=>?_;clear G;go_upto_region 7 with fail
    have HS:=un (show ∀w',Below v1 v1 w'->((χ w' w 0 (.bool u)/\χ w' w 1 (m,y,s)/\χ w' w 2 (o,x,r)/\χ w' D (k*3) (.bool ga)/\χ w' D (k*3+1) (Aa,ma,ca)/\χ w' D (k*3+2) (Da,aq,aj)/\χ w' z (k*3) (.bool gb)/\χ w' z (k*3+1) (Z,mb,cb)/\χ w' z (k*3+2) (Db,af,ac)/\χ w' bm (om+k) (.bool true))/\Below v1 v1 w')from λw' h=>⟨⟨zab h bY,zab h bZ,zab h b3,zab h b1,zab h b2,zab h b4,zab h b5,zab h b6,zab h b7,zab h b8⟩,h⟩);go_cut[10] (λbV wz=>zcD v1 bV wz (el ps k / -el ls k))
    case first =>
     go_region_held3 (λw'=>((χ w' w 0 (.bool u)/\χ w' w 1 (m,y,s)/\χ w' w 2 (o,x,r)/\χ w' D (k*3) (.bool ga)/\χ w' D (k*3+1) (Aa,ma,ca)/\χ w' D (k*3+2) (Da,aq,aj)/\χ w' z (k*3) (.bool gb)/\χ w' z (k*3+1) (Z,mb,cb)/\χ w' z (k*3+2) (Db,af,ac)/\χ w' bm (om+k) (.bool true))/\Below v1 v1 w'))
      ((refine HS.o _ ?_;repeat(first | exact Zl _ _ | exact(by assumption:_/\Below _ _ _).2 | refine bdrew ?_ | refine al2 ?_ _ | refine set2 ?_ ω | refine zc1 ?_ (by assumption))))
      (first
       | (go_at_call 91;(refine(Rt.neg gb Z mb cb Db af ac (el ls k) _ (cf.o.below (by assumption:_/\Below _ _ _).2)).mono ?_);rintro e u1 ⟨g1,A1,m1,c1,D1,md1,cd1,rfl,hn,hb1⟩;have av:=hb1.size;(try simp at av);have cC:v1.heap.size<=u1.heap.size:=ω;(try((first | (have c:=un (zbc (cs:=#[.bool false,.slice none 0 0,.slice none 0 0]) (t:=62) hb1 c.o)) | (have c:=un (zbc (cs:=#[.bool false,.slice none 0 0,.slice none 0 0]) (t:=62) hb1 (zal _ _ _))));have bF:=zac c.o 0;have bI:=zag c.o 0;have bG:=zac c.o 1;have bJ:=zag c.o 1;have bH:=zac c.o 2;have bK:=zag c.o 2));have N1:=un hn;clear hn)
       | (go_at_call 159;(refine(Rt.div ga Aa ma ca Da aq aj (el ps k) g1 A1 m1 c1 D1 md1 cd1 (-el ls k) _ (ce.o.below (by assumption:_/\Below _ _ _).2) (by repeat(first | exact N1.o | refine RatS.alloc ?_ _ | refine RatS.drew ?_)) bC.o bz.o).mono ?_);rintro e u2 ⟨g2,A2,m2,c2,D2,md2,cd2,rfl,hn,hb2⟩;have aw:=hb2.size;(try simp at aw);have cD:v1.heap.size<=u2.heap.size:=ω;(try((first | (have c:=un (zbc (cs:=#[.bool false,.slice none 0 0,.slice none 0 0]) (t:=62) hb2 c.o)) | (have c:=un (zbc (cs:=#[.bool false,.slice none 0 0,.slice none 0 0]) (t:=62) hb2 (zal _ _ _))));have bF:=zac c.o 0;have bI:=zag c.o 0;have bG:=zac c.o 1;have bJ:=zag c.o 1;have bH:=zac c.o 2;have bK:=zag c.o 2));have N7:=un hn;clear hn)
       | fail)
     all_goals
      go_wp2;go_meet
      case rel=>(have E:=(by assumption:_/\Below v1 v1 _).2;(first | (refine zcD.of E ?_ c.o N7.o;omega) | (refine zcD.al E ?_ N7.o;omega) | (refine zcD.of E ?_ (zal _ _ _) (N7.o.alloc _);omega)))
    obtain⟨I,T,J,V,P,O,W,Q,rfl,ar,bQ,au,hi⟩:=hcut;rename World=>wz
    refine μ4 (λb h=>((aC.o b h).below aV.o).below ar) (zad ar aT.o) (br.o.below ar) (show RatS wz T (J,V,P) (O,W,Q) (el ps k / -el ls k)from hi) λbB ay bt HR=>?_;obtain⟨cM,cH,_,cK,cN,_,cP,_,cQ,_,cV,_⟩:=bf3 ay.o;have b9:χ wz I 0 (.bool T):=zac au 0;have cc:χ wz I 1 (J,V,P):=zac au 1;have cd:χ wz I 2 (O,W,Q):=zac au 2;clear ar HS;clear hi au;cases E:za4 ps ls may k with
    | none =>
     have F:zbh none = -1:=rfl;rw[F];have f:=un (zkI aB.o E);go_wp2_with fail
     refine zaS (S:=λw'=>χ w' I 0 (.bool T)/\χ w' I 1 (J,V,P)/\χ w' I 2 (O,W,Q)) [3] (h:=λhHeld=>?_);refine zaw [0,1,2] ?_;repeat refine tkL hHeld ?_
     refine zao ?_;refine zay 3 (h:=λK hK=>?_);go_simp;refine shutOff hK ?_;clear hK K;refine zaM (h:=?_);go_wp2;go_roundw
     case rel=>exact⟨k+1,T,J,V,P,O,W,Q,by go_num,by rw[f.o];rfl,ω,zar _ (zar _ (zar _ ay.o)),λb h=>by rw[f.o]at h;injection h with h;subst h;exact(HR.o.set3 ay.o δ _ _ _).drew,(Bel.set3 bt.o (Za _) _ _ _).drew.b⟩
     case measure=>simp[intOf];omega
    | some g =>
     have F:zbh (some g)=(g:Int):=rfl;rw[F];have aU:=un E;have a1:=un (bB.o g E);have cn:=zhA E;have cu:¬(g:Int)<0:=ω;have bT:=ZP.o _ (Zj (zaH (xs:=ps) (j:=g) (by rw[<-aF.o];omega)));have bU:=ZL.o _ (Zj (zaH (xs:=ls) (j:=g) (by rw[<-aD.o];omega)));have bx:=un (show 4*(mw (el ps k / -el ls k)+mw (el ps g / -el ls g))+8<=LIM by have h1:=zyw (el ps k) (-el ls k);have h2:=zyw (el ps g) (-el ls g);rw[zhY]at h1 h2;have:=a4.o;have:=a6.o;have:=a7.o;omega);clear E bT bU;go_wp2_with fail
     refine(Rt.cmpr T J V P O W Q (el ps k / -el ls k) u m y s o x r (el ps g / -el ls g) _ HR.o a1.o bx.o).mono ?_
     rintro e v2 ⟨rfl,hb⟩;refine μ4 (zad hb ay.o) (bt.o.below hb) (HR.o.below hb) (a1.o.below hb) λaz bo cg bX=>?_;obtain⟨_,cI,_,cL,cJ,_,cO,_,cU,_,cG,_⟩:=bf3 az.o;have cR:=zab hb b9;have cS:=zab hb cc;have cT:=zab hb cd;clear hb;by_cases hc:el ps k / -el ls k<el ps g / -el ls g
     ·have bN:=zm9.2 hc;have f:=un (zl1 aB.o aU.o hc);go_wp2_with fail
      refine zaS (S:=λw'=>χ w' I 0 (.bool T)/\χ w' I 1 (J,V,P)/\χ w' I 2 (O,W,Q)) [3] (h:=λhHeld=>?_);refine zaw [0,1,2] ?_;repeat refine tkL hHeld ?_
      refine zao ?_;refine zay 3 (h:=λK hK=>?_);go_simp;refine shutOff hK ?_;clear hK K;refine zaM (h:=?_);go_wp2;go_roundw
      case rel=>exact⟨k+1,T,J,V,P,O,W,Q,by go_num,by rw[f.o];rfl,ω,zar _ (zar _ (zar _ az.o)),λb h=>by rw[f.o]at h;injection h with h;subst h;exact(cg.o.set3 az.o δ _ _ _).drew,(Bel.set3 bo.o (Za _) _ _ _).drew.b⟩
      case measure=>simp[intOf];omega
     have bN:¬zlX (el ps k / -el ls k) (el ps g / -el ls g)<0:=λh=>hc (zm9.1 h)
     have f:=un (zl0 aB.o aU.o hc);go_wp2;go_roundw
     case rel=>exact⟨k+1,u,m,y,s,o,x,r,by go_num,by rw[f.o];rfl,ω,az.o,λb h=>by rw[f.o]at h;injection h with h;subst h;exact bX.o,bo.o.b⟩
     case measure=>simp[intOf];omega
   have hs:=zrO G;have bS:¬(el ls k).num<0:=λe=>G (zeh.1 e)
   have f:=un (zdV (p:=ps) (l:=ls) (may:=may) (k:=k) (λh=>G h.2));go_wp2;go_roundw
   case rel=>exact⟨k+1,u,m,y,s,o,x,r,by go_num,by rw[f.o],ω,aT.o,λb h=>by rw[f.o]at h;exact(aC.o b h).below aV.o,br.o.b⟩
   case measure=>simp[intOf];omega
 obtain rfl:N=k:=ω;have f:=un (show zhy ps ls may=za4 ps ls may N by unfold zhy;rw[<-aF.o,<-aD.o,<-aE.o,<-HN.o]);have bw:=un U;clear aL hP U;go_wp2;go_ret;exact⟨by rw[f.o];rfl,bw.o⟩
end Du
def VecS.setT(h:VecS w H v qs){p:Addr}(hg:θ w p.block cs t)(h1:206≠t)(a:62≠t)(u:Value):VecS (w.setCell p u) H v qs:=by obtain⟨l,_,_,b⟩:=h.row;exact h.setCell (za6 b hg a) hg h1 u
def RatS.setT{g:Bool}{s d:Value}(h:RatS w g s d q){p:Addr}(hg:θ w p.block cs t)(h1:206≠t)(u:Value):RatS (w.setCell p u) g s d q :=
 ⟨⟨h.num.abs.setCell hg h1 u,h.num.neg⟩,h.den.setCell hg h1 u⟩
def RowS.setT{w:World}{r:RR}{p:PRow}(h:RowS w r p){a:Addr}{t:TypeId}{cs:Array Value}(hg:θ w a.block cs t)(h1:206≠t)(b:62≠t)(u:Value):RowS (w.setCell a u) r p :=
 ⟨h.coef.setT hg h1 b u,h.kind,h.rhs.setT hg h1 u⟩
def RowsL.setT{w:World}{H:Nat}{v:Value}{l:List RR}{ps:List PRow}(h:RowsL w H v l ps){a:Addr}{t:TypeId}{cs:Array Value}(hg:θ w a.block cs t)(h1:206≠t)(d:62≠t)(f:101≠t)(u:Value):RowsL (w.setCell a u) H v l ps :=
 ⟨h.len,λk r p b c=>(h.each k r p b c).setT hg h1 d u,zc9 h.own λk hk=>ZE w a u k (λe=>za6 h.own hg f (by rw[hk,e]))⟩
def zij.blk(h:zij w w')(a:θ w b cs t)(c:101≠t):θ w' b cs t :=
 (h b (ZU.1 a).1 λd e=>by rw[a]at e;grind).trans a
def RowsL.base'(h:RowsL w H v l ps)(b:a<=H):RowsL w a v l ps:=⟨h.len,h.each,zbu h.own b⟩
def From (N:Nat) (l:List RR):Prop:=∀(i:Nat) (ri:RR) (b:Nat),l[i]? = some ri->ri.c.ownBlock=some b->N<=b
def zLw(N:Nat):From N []:=λi a b h=>by simp at h
def zKP{r:RR}(h:From N l)(hr:∀b,r.c.ownBlock=some b->N<=b):From N (l++[r]):=by intro i d b hi a;rcases XM i l.length with h1 | h1 | h1;rw[Z4 h1]at hi;exact h i d b hi a;subst h1;rw[ZN (Za _)]at hi;simp at hi;subst hi;exact hr b a;grind
def znO(h:w.ownsRow H e size v n xs)(hN:∀b,v.ownBlock=some b->N<=b):w.ownsRow N e size v n xs:=by
 refine⟨h.1,?_⟩;rcases h.2 with h2 | ⟨g,cap,cur,hv,hg,r⟩
 grind;exact .inr ⟨g,cap,cur,hv,hN g (by rw[hv];rfl),r⟩
def VecS.raise(h:VecS w H v qs)(hN:∀b,v.ownBlock=some b->N<=b):VecS w N v qs:=by obtain⟨l,h1,a,c⟩:=h.row;exact⟨l,h1,a,znO c hN⟩
def zff.blk(h:zff w w')(a:θ w b cs t)(c:62≠t):θ w' b cs t :=
 (h b (ZU.1 a).1 λd e=>by rw[a]at e;grind).trans a
def zei (l:List RR) (k:Nat) (c:Value):List RR:=l.modify k λr=>{ r with c:=c }
def zib{c:Value}{i:Nat}{r:RR}(h:(zei l k c)[i]? = some r):∃a,l[i]? = some a/\((i=k/\r.c=c)\/(i≠k/\r.c=a.c)):=by unfold zei at h;rw[X9]at h;grind
def zsz{r:RR}(h:l[k]? = some r):zei l k r.c=l:=by
 unfold zei;apply Xf;intro i;rw[X9];by_cases hk:k=i
 simp_all
 simp[hk]
structure RSt (w0 wz:World) (pb:Nat) (C:Value) (cost:List Rat) (R:Value) (l:List RR) (ps:List PRow) (k:Nat) (cv:Value) (qs:List Rat):Prop where
  res:θ wz (w0.heap.size+1) #[(),()] 33
  pbx:θ wz pb #[C,R] 33
  cost:VecS wz w0 C cost
  len:l.length=ps.length
  each:∀(i:Nat) (r:RR) (p:PRow),l[i]? = some r->ps[i]? = some p->(i≠k->VecS wz 0 r.c p.coef)/\r.k=p.kind/\RatS wz r.g r.s r.d p.rhs
  own:wz.ownsRow w0.heap.size 101 5 R ps.length (zcW l)
  cur:VecS wz w0 cv qs
  ap:Apart C (zei l k cv)
  fr:From w0.heap.size l
  bel:Below w0 w0 wz
namespace RSt
variable {w0 wz w':World} {pb:Nat} {C:Value} {cost:List Rat} {R:Value} {l:List RR} {ps:List PRow} {k:Nat} {cv:Value} {qs:List Rat}
def below(h:RSt w0 wz pb C cost R l ps k cv qs)(c:Below wz wz w'):RSt w0 w' pb C cost R l ps k cv qs :=
  ⟨zad c h.res,zad c h.pbx,h.cost.below c,h.len,λi r p a b=>⟨λe=>((h.each i r p a b).1 e).below c,(h.each i r p a b).2.1,(h.each i r p a b).2.2.below c⟩,
   zc9 h.own λk hk=>c.block k (h.own.lt k hk).2,h.cur.below c,h.ap,h.fr,h.bel.trans (c.mono h.bel.size)⟩
def alloc(h:RSt w0 wz pb C cost R l ps k cv qs)(o:Obj):RSt w0 (wz.alloc o) pb C cost R l ps k cv qs:=h.below (zae wz o)
def drew(h:RSt w0 wz pb C cost R l ps k cv qs):RSt w0 wz.drew pb C cost R l ps k cv qs:=h.below (zap wz 1)
def append(h:RSt w0 wz pb C cost R l ps k cv qs)(hk:k<l.length){m:Value}(o:VecS w' w0 m (qs++[q]))(hr:zff wz w')(hg:wz.grownBy w' cv.ownBlock)(hc:m.ownBlock=cv.ownBlock\/∃b,m.ownBlock=some b/\wz.heap.size<=b) :
  RSt w0 w' pb C cost R l ps k m (qs++[q]):=by
 obtain⟨S,M⟩:∃r,l[k]? = some r:=⟨l[k],Ze hk⟩
 have B:(zei l k cv)[k]? = some { S with c:=cv }:=by unfold zei;rw[X9,M];simp
 have O:∀b,C.ownBlock=some b->w'.heap[b]? = wz.heap[b]?:=λb d=>hg.block b (h.cost.lt d).2 λe=>h.ap.2 k _ b B e.symm d
 have P:∀i r p,l[i]? = some r->ps[i]? = some p->i≠k->VecS w' 0 r.c p.coef:=by
  intro i r p h1 a A;have o:=(h.each i r p h1 a).1 A;refine o.keepAll (λb d=>hg.block b (o.lt d).2 λe=>?_) λ_ _ _ _ x=>x.keepT hr
  have N:(zei l k cv)[i]? = some r:=by unfold zei;rw[X9,h1];simp;intro e;exact absurd e.symm A
  exact A (h.ap.1 i k r _ b N B d e.symm)
 refine⟨hr.blk h.res δ,hr.blk h.pbx δ,h.cost.keepAll O λ_ _ _ _ x=>x.keepT hr,h.len,λi r p h1 a=>⟨P i r p h1 a,(h.each i r p h1 a).2.1,(h.each i r p h1 a).2.2.keepT hr⟩,?_,o,?_,h.fr,?_⟩;refine zc9 h.own λb d=>?_;rcases h.own.2 with ⟨e,_⟩ | ⟨g,cap,cur,e,_,I,_⟩
 rw[e]at d;cases d;rw[e]at d;injection d with d;subst d;exact(hr.blk I δ).trans I.symm
 have J:∀(i:Nat) (r:RR) (b:Nat),(zei l k cv)[i]? = some r->r.c.ownBlock=some b->b<wz.heap.size:=by
  intro i r b h1 a;obtain⟨E,n,⟨rfl,f⟩ | ⟨f,z⟩⟩:=zib h1;rw[f]at a;exact(h.cur.lt a).2;obtain⟨p,L⟩:∃p,ps[i]? = some p:=⟨ps[i]'(by rw[<-h.len];exact(ZF.1 n).1),Ze _⟩
  rw[z]at a;exact(((h.each i E p n L).1 f).lt a).2
 have D:∀(i:Nat) (r:RR) (b:Nat),(zei l k m)[i]? = some r->r.c.ownBlock=some b->(∃r',(zei l k cv)[i]? = some r'/\r'.c.ownBlock=some b)\/(i=k/\wz.heap.size<=b):=by
  intro i r b h1 a;obtain⟨E,n,⟨rfl,f⟩ | ⟨f,z⟩⟩:=zib h1;rw[f]at a;rcases hc with hc | ⟨b',hc,hb'⟩
  exact .inl ⟨_,B,by rw[<-hc];exact a⟩;rw[hc]at a;injection a with a;exact .inr ⟨rfl,ω⟩;exact .inl ⟨E,by unfold zei;rw[X9,n];simp;intro e;exact absurd e.symm f,by rw[<-z];exact a⟩
 refine⟨λi j F Q b hi hj y K=>?_,λi F b hi y G=>?_⟩;rcases D i F b hi y with ⟨s,a1,a2⟩ | ⟨a1,a2⟩<;>rcases D j Q b hj K with ⟨r2,t,u⟩ | ⟨t,u⟩
 exact h.ap.1 i j s r2 b a1 t a2 u;have:=J i s b a1 a2;omega;have:=J j r2 b t u;omega;omega;rcases D i F b hi y with ⟨s,a1,a2⟩ | ⟨a1,a2⟩
 exact h.ap.2 i s b a1 a2 G;have:=(h.cost.lt G).2;omega;exact h.bel.grown hg h.bel.size λb d=>(h.cur.lt d).1
end RSt
structure ROut (w0 w:World) (pb:Nat) (C:Value) (cost:List Rat) (R:Value) (l:List RR) (ps:List PRow):Prop where
  res:θ w (w0.heap.size+1) #[(),()] 33
  pbx:θ w pb #[C,R] 33
  cost:VecS w w0 C cost
  rows:RowsL w w0 R l ps
  ap:Apart C l
  fr:From w0.heap.size l
  bel:Below w0 w0 w
def ROut.below{w0 w w':World}{pb:Nat}{C:Value}{cost:List Rat}{R:Value}{l:List RR}{ps:List PRow}(h:ROut w0 w pb C cost R l ps)(a:Below w w w'):ROut w0 w' pb C cost R l ps :=
 ⟨zad a h.res,zad a h.pbx,h.cost.below a,h.rows.below a,h.ap,h.fr,h.bel.trans (a.mono h.bel.size)⟩
def ROut.drew{w0 w:World}{pb:Nat}{C:Value}{cost:List Rat}{R:Value}{l:List RR}{ps:List PRow}(h:ROut w0 w pb C cost R l ps):ROut w0 w.drew pb C cost R l ps:=h.below (zap w 1)
def RSt.start{R:Value}(h:ROut w0 wz pb C cost R l ps){r:RR}{p:PRow}(hr:l[k]? = some r)(e:ps[k]? = some p):RSt w0 wz pb C cost R l ps k r.c p.coef :=
 ⟨h.res,h.pbx,h.cost,h.rows.len,λi r p h1 a=>⟨λ_=>(h.rows.each i r p h1 a).coef,(h.rows.each i r p h1 a).kind,(h.rows.each i r p h1 a).rhs⟩,h.rows.own,(h.rows.each k r p hr e).coef.raise λb d=>h.fr k r b hr d,by rw[zsz hr];exact h.ap,h.fr,h.bel⟩
def zxs(h:w.ownsRow H e size (A,n,cap) n xs)(i:Nat)(hi:i<=n) :
  w.ownsRow H e size (A,i,cap) i (xs.take (i*size)):=by
 have f:i*size<=n*size:=ZV _ hi;refine⟨by rw[ZI,h.1];omega,?_⟩;rcases h.2 with ⟨a,m⟩ | ⟨g',j,cur,a,b,hg,o,c,d,g⟩
 grind;injection a with e1 e2 e3;subst e1 e3;exact .inr ⟨g',cap,cur,rfl,b,hg,ω,c,d,by rw[<-g,YX,XD f]⟩
def zqu(l:List RV):∀k,(rcells l).take (k*3)=rcells (l.take k):=by
 induction l with
 | nil=>intro k;simp[rcells]
 | cons a l ih =>
  intro k;cases k with
  | zero=>simp[rcells]
  | succ k=>rw[show(k+1)*3=k*3+1+1+1 by omega,zcy];simp[zcy,ih]
def VecS.cut(h:VecS w H (A,n,cap) qs)(i:Nat)(hi:i<=n):VecS w H (A,i,cap) (qs.take i):=by have f:=h.len;subst f;obtain⟨l,h1,d,e⟩:=h.row;refine⟨l.take i,by simp[h1],λk r q a b=>?_,?_⟩;rw[Ys]at a b;grind;have c:=zxs e i hi;rw[zqu]at c;rw[ZI,XD hi];exact c
def zA4(h:w.ownsRow H e size (b,n,cap) n xs):∃cur,θ w b cur e/\H<=b:=by
 rcases h.2 with ⟨a,i⟩ | ⟨g',d,cur,a,c,hg,j,f,g,m⟩
 cases a;grind
def zq7{o:Nat}{f:Array Value}{d:TypeId}(u:Value)(h:θ w b cs t)(a:θ w c f d)(g:t≠d):θ (w.setCell ⟨b,o,none⟩ u) c f d:=by grind[Below.heap_setCell]
def RSt.put{q E G:Nat}(h:RSt w0 wz pb C cost (q,E,G) l ps k (A,n,c) qs)(M:E=ps.length)(nc:Nat)(N:nc<=n) :
  ROut w0 (wz.setCell ⟨q,k*5,none⟩ (A,nc,c)) pb C cost (q,E,G) (zei l k (A,nc,c)) (ps.modify k λp=>{ p with coef:=qs.take nc }):=by
 subst M;obtain⟨cur,hg,L⟩:=zA4 h.own;have hcut:=h.cur.cut nc N;have D:∀(i:Nat) (r:RR) (b:Nat),(zei l k (A,nc,c))[i]? = some r->r.c.ownBlock=some b->∃r',(zei l k (A,n,c))[i]? = some r'/\r'.c.ownBlock=some b:=by
  intro i r b h1 f;obtain⟨o,x,⟨rfl,m⟩ | ⟨m,y⟩⟩:=zib h1
  exact⟨{ o with c:=.slice A n c },by unfold zei;rw[X9,x];simp,by rw[m]at f;cases A with
   | none=>cases f
   | some a=>exact f⟩
  exact⟨o,by unfold zei;rw[X9,x];grind,by rw[<-y];exact f⟩
 refine⟨zq7 _ hg h.res δ,zq7 _ hg h.pbx δ,h.cost.setT (p:=⟨q,k*5,none⟩) hg δ δ _,⟨by simp[zei,h.len],?_,?_⟩,⟨λi j B P b hi hj t K=>?_,λi B b hi t=>?_⟩,λi B b hi t=>?_,h.bel.setCell L _⟩;intro i r p h1 f;obtain⟨o,x,O⟩:=zib h1;have u:r.k=o.k/\r.g=o.g/\r.s=o.s/\r.d=o.d:=by unfold zei at h1;rw[X9,x]at h1;simp at h1;split at h1<;>(grind)
 rw[X9]at f;cases e:ps[i]? with
 | none=>rw[e]at f;simp at f
 | some p0 =>
  rw[e]at f;simp at f;have z:=h.each i o p0 x e;rcases O with ⟨rfl,m⟩ | ⟨m,y⟩
  rw[if_pos rfl]at f;subst f;refine⟨by rw[m];exact((hcut.base (Zb _)).setT (p:=⟨q,i*5,none⟩) hg δ δ _),by rw[u.1];exact z.2.1,by rw[u.2.1,u.2.2.1,u.2.2.2];exact z.2.2.setT (p:=⟨q,i*5,none⟩) hg δ _⟩;rw[if_neg (λe=>m e.symm)]at f;subst f;refine⟨by rw[y];exact((z.1 m).setT (p:=⟨q,k*5,none⟩) hg δ δ _),by rw[u.1];exact z.2.1,by rw[u.2.1,u.2.2.1,u.2.2.2];exact z.2.2.setT (p:=⟨q,k*5,none⟩) hg δ _⟩
 rw[List.length_modify,zei,<-zpb];exact(h.own.stored _ _).1;obtain⟨F,a1,a2⟩:=D i B b hi t;obtain⟨r2,I,J⟩:=D j P b hj K;exact h.ap.1 i j F r2 b a1 I a2 J;obtain⟨F,a1,a2⟩:=D i B b hi t;exact h.ap.2 i F b a1 a2;obtain⟨o,x,⟨rfl,m⟩ | ⟨m,y⟩⟩:=zib hi;rw[m]at t;exact(hcut.lt t).1;rw[y]at t;exact h.fr i o b x t
def zSO{ops:Array Oper}{rest:List Oper}{o:Oper}{a:Act}{Q:Exit->Act->World->Prop}(U:o.guard=none)(s x:Operand)
  (J:o.op=.call { callee:=.builtin .append,args:=#[s,x],argTypes:=#[30,30] }) {S:Nat}  {ps:List Rat} (L:a.eval s=v) (i:VecS w H v ps)   (M:a.eval x=(A,n,c)) (d:VecS w S (A,n,c) qs)
   (hN:ps.length+n=N) (ak:N<=1000000) (E:H<=w.heap.size)
  (F:∀b c' w',VecS w' H (.slice b N c') (ps++qs)->TKeep 62 w w'->Below H w w'->wpList prog ops Q rest (a.put o.dst (.slice b N c')) w'):wpList prog ops Q (o::rest) a w:=by
 subst hN;obtain⟨O,hi,ac,ad,ae⟩:=info_parts ze0;obtain⟨l,h1,t,e⟩:=i.row;obtain rfl:=d.len;refine wpList_plain U λK G=>?_;rcases d.form.2.2.2 with ⟨rfl,rfl,rfl⟩ | ⟨g,rfl,ai,aj⟩
 have ab:=run_append_owned_none (P:=prog) (w:=w) H 30 o.type 62 O 3 underlying30 hi v ps.length (rcells l) e;obtain⟨b,n',c',rfl⟩:=i.slice;obtain rfl:=i.len;unfold Oper.wp;simp[execOp,J,resolve,invoke,builtin,L,M,ab,Result.andThen];refine G _ _ ?_;have:=F b c' w (by rw[XT];exact i) (λ_ _ _=>rfl) (Zl _ _);exact this
 obtain⟨f,p,B,T⟩:=d.row;have Y:∀u∈rcells f,u.oneCell'=true:=ziJ f λr hr=>by
  obtain⟨k,hk,X⟩:=YM hr;have V:f[k]? = some r:=by rw[Ze hk,X]
  obtain⟨q,hq⟩:∃q,qs[k]? = some q:=⟨qs[k]' ω,Ze _⟩
  obtain⟨A,m,c,D,md,cd,h1,t⟩:=(B k r q V hq).shape;rw[h1,t];exact⟨rfl,rfl⟩
 refine wp_append_own w s x 30 J H 62 O _ 3 56 underlying30 hi ac ad ae rfl δ v ps.length (rcells l) L e ⟨g,0,none⟩ qs.length c (rcells f) M (by rw[zcC,p])
  (λj u d=>by
   have hj:=(ZF.1 d).1;rw[zcC,p]at hj;show w.cell? (Addr.add _ _)=_
   rw[show(⟨g,0,none⟩:Addr).add j=⟨g,j,none⟩by unfold Addr.add;split<;>simp_all];rw[T.cellAt j hj];exact d) Y (by unfold maxLen;omega) ω E ?_
 intro v' w' Z z _;have hk:=zh3 e z;have y:VecS w' H v' (ps++qs):=by refine⟨l++f,by simp[h1,p],λk r q a1 a2=>?_,by rw[Zz,zh4];exact Z⟩;by_cases W:k<l.length;rw[Z4 W]at a1;rw[Z4 ω]at a2;exact(t k r q a1 a2).keepT hk;rw[ZN ω]at a1;rw[ZN ω]at a2;rw[h1]at a1;exact(B _ r q a1 a2).keepT hk
 obtain⟨b,n',c',rfl⟩:=y.slice;have I:=y.len;rw[Zz]at I;subst I;exact G _ _ (F b c' w' y (TKeep.grown e z) ((Zl _ _).grown z E (λk hk=>(e.lt k hk).1)))
theorem zH7{p d:Int}(a:I64 p)(c:I64 d):mw (fr p d)<=1:=by unfold fr;grind[zu9,zhX,zdl]
def zyq{ps:List (Int × Int)}(h:zcs w A ps):∀q∈frs ps,mw q<=1:=by intro q b;obtain⟨x,c,rfl⟩:=ZH.1 b;obtain⟨k,hk⟩:=Xh.1 c;obtain⟨h1,a,_⟩:=h k x hk;grind[zH7]
