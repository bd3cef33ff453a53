/- Contracts and lemmas: Bools AppV DuA Vec10 PrE DuC Law2 Law2b Fr. Conditions: as each says. -/
import Derived.Test.YtbhfhkcdfmmmiaaGreatIntsZj
import Derived.Laws.Cover1
set_option linter.all false
set_option maxHeartbeats 4000000
set_option maxRecDepth 100000
namespace Go.Proofs.YtbhfhkcdfmmmiaaGreat
open Go.RowKit Am Tryz
variable {cs:Array Value}{may:List Bool}{ps:List PRow}{l:List RR}{cost p qs:List Rat}{xs:List Value}{H N a b c cap k n pb size:Nat}{A:OA}{q:Rat}{e t:TypeId}{C v:Value}{w w' w0 wz:World}
theorem zuV:(prog.info? 4).map (fun i=>(i.zero,i.size,i.bytes))=some (some (.bool false),1,1):=by kernel_rfl
def tcells (xs:List Bool):List Value:=xs.map fun x=>.bool x
structure BoolsS (w:World) (H:Nat) (v:Value) (xs:List Bool):Prop where
  own:w.ownsRow H 4 1 v xs.length (tcells xs)
namespace BoolsS
variable {w w':World} {H:Nat} {v:Value} {xs:List Bool}
theorem keep(h:BoolsS w H v xs)(hk:∀k,v.ownBlock=some k→w'.heap[k]? = w.heap[k]?):BoolsS w' H v xs:=⟨zc9 h.own hk⟩
theorem below(h:BoolsS w H v xs)(a:Below w w w'):BoolsS w' H v xs:=h.keep fun k hk=>a.block k (h.own.lt k hk).2
theorem alloc(h:BoolsS w H v xs)(o:Obj):BoolsS (w.alloc o) H v xs:=h.below (zae w o)
theorem drew(h:BoolsS w H v xs):BoolsS w.drew H v xs:=h.below (zap w 1)
theorem base(h:BoolsS w H v xs)(b:a≤H):BoolsS w a v xs:=⟨zbu h.own b⟩
theorem tk(h:BoolsS w H v xs)(hk:TKeep t w w')(h1:4≠t):BoolsS w' H v xs :=
 h.keep fun k a=>hk k (h.own.lt k a).2 fun cs e=>za6 h.own e h1 a
theorem kept{T:List TypeId}{b:Option Nat}(h:BoolsS w H v xs)(hk:Kept T b w w')(h1:4 ∉ T):BoolsS w' H v xs:=by
 refine h.keep fun k a=>?_
 rcases h.own.2 with ⟨rfl,_⟩ | ⟨g',cap,cur,rfl,_,c,_⟩
 ·cases a
 ·injection a with a;subst a;rw[c];exact hk.blk c h1 (by decide)
theorem form(h:BoolsS w H (A,n,c) xs):n=xs.length∧n≤c∧c≤maxLen∧((A=none∧c=0∧xs=[])∨∃g,A=some ⟨g,0,none⟩∧H≤g∧g<w.heap.size):=by
 rcases h.own.2 with ⟨b,a⟩ | ⟨g,cap,cur,b,hg,d,a,hm,_⟩
 ·injection b with e1 e2 e3;subst e1 e2 e3;exact⟨a.symm,Za _,Zb _,.inl ⟨rfl,rfl,Xl.1 a⟩⟩
 grind
theorem len(h:BoolsS w H (A,n,c) xs):n=xs.length:=h.form.1
theorem has(h:BoolsS w H (A,n,c) xs)(e:0<n):∃g,A=some ⟨g,0,none⟩∧H≤g∧g<w.heap.size:=by
 obtain⟨h1,b,d,a | a⟩:=h.form
 ·omega
 ·exact a
theorem slice(h:BoolsS w H v xs):∃A c,v=.slice A xs.length c:=by
 rcases h.own.2 with ⟨a,b⟩ | ⟨g,cap,cur,a,_⟩
 ·exact⟨_,_,by rw[a,b]⟩
 grind
theorem fro(h:BoolsS w H (b,n,c) xs)(j:Nat):w.frozen? ⟨b,j,none⟩=false:=by
 have a:=h.len;subst a;exact h.own.frozenAt j
theorem at_(h:BoolsS w H (b,n,c) xs){x:Bool}(hk:xs[k]? = some x):w.cell? ⟨b,k,none⟩=some (.bool x):=by
 have a:=h.len;subst a;have d:=(Zm.1 hk).1;rw[h.own.cellAt _ (by omega)];simp[tcells,hk]
theorem store(h:BoolsS w H (b,n,c) xs)(k:Nat)(x:Bool):BoolsS (w.setCell ⟨b,k,none⟩ x) H (b,n,c) (xs.set k x):=by
 have a:=h.len;subst a;refine⟨?_⟩;have:=(h.own.stored k x).1;rw[ZE];simpa[tcells,List.map_set]using this
end BoolsS
def zgu (w:World) (A:OA) (xs:List Bool):Prop:=∀(k:Nat) (x:Bool),xs[k]? = some x→∃b o,A=some ⟨b,o,none⟩∧w.cell? ⟨b,o+k,none⟩=some (.bool x)
theorem zgu.below{xs:List Bool}(h:zgu w A xs)(a:Below w w w'):zgu w' A xs:=fun k x hk=>by
 obtain⟨b,o,e,hc⟩:=h k x hk;grind[zab]
theorem BoolsS.reads{xs:List Bool}(h:BoolsS w H (A,n,c) xs):zgu w A xs:=fun k x hk=>by
 have a:=(Zm.1 hk).1;obtain⟨g,rfl,_,_⟩:=h.has (by rw[h.len];omega);exact⟨g,0,rfl,by rw[Z2];exact h.at_ hk⟩
theorem zSO{ops:Array Oper}{rest:List Oper}{o:Oper}{a:Act}{Q:Exit→Act→World→Prop}(W:o.guard=none)(s x:Operand)
  (M:o.op=.call { callee:=.builtin .append,args:=#[s,x],argTypes:=#[28,28] }) {U:Nat}  {ps:List Rat} (O:a.eval s=v) (t:VecS w H v ps)   (S:a.eval x=(A,n,c)) (d:VecS w U (A,n,c) qs)
   (hN:ps.length+n=N) (am:N≤1000000) (G:H≤w.heap.size)
  (I:∀b c' w',VecS w' H (.slice b N c') (ps++qs)→TKeep 41 w w'→Below H w w'→wpList prog ops Q rest (a.put o.dst (.slice b N c')) w'):wpList prog ops Q (o::rest) a w:=by
 subst hN;obtain⟨T,hi,ae,af,ag⟩:=info_parts ze0;obtain⟨l,h1,z,f⟩:=t.row;obtain rfl:=d.len;refine wpList_plain W fun K J=>?_
 rcases d.form.2.2.2 with ⟨rfl,rfl,rfl⟩ | ⟨g,rfl,ak,al⟩
 ·have ad:=run_append_owned_none (P:=prog) (w:=w) H 28 o.type 41 T 3 underlying28 hi v ps.length (rcells l) f;obtain⟨b,n',c',rfl⟩:=t.slice;obtain rfl:=t.len;unfold Oper.wp;simp[execOp,M,resolve,invoke,builtin,O,S,ad,Result.andThen];refine J _ _ ?_;have:=I b c' w (by rw[Yg];exact t) (fun _ _ _=>rfl) (Zg _ _);exact this
 ·obtain⟨i,y,F,V⟩:=d.row;have aa:∀u∈rcells i,u.oneCell'=true:=ziJ i fun r hr=>by
   obtain⟨k,hk,Z⟩:=X9 hr;have X:i[k]? = some r:=by rw[Ze hk,Z]
   obtain⟨q,hq⟩:∃q,qs[k]? = some q:=⟨qs[k]'(by omega),Ze _⟩
   obtain⟨A,m,c,D,md,cd,h1,z⟩:=(F k r q X hq).shape;rw[h1,z];exact⟨rfl,rfl⟩
  refine wp_append_own w s x 28 M H 41 T _ 3 56 underlying28 hi ae af ag rfl (by decide) v ps.length (rcells l) O f ⟨g,0,none⟩ qs.length c (rcells i) S (by rw[zcC,y])
   (fun j u d=>by
    have hj:=(Zm.1 d).1;rw[zcC,y]at hj;show w.cell? (Addr.add _ _)=_
    rw[show(⟨g,0,none⟩:Addr).add j=⟨g,j,none⟩by unfold Addr.add;split<;>simp_all];rw[V.cellAt j hj];exact d) aa (by unfold maxLen;omega) (by omega) G ?_
  intro v' w' ab E _;have hk:=zh3 f E;have B:VecS w' H v' (ps++qs):=by
   refine⟨l++i,by simp[h1,y],fun k r q e p=>?_,by rw[Zj,zh4];exact ab⟩;by_cases Y:k<l.length
   ·rw[ZO Y]at e;rw[ZO (by omega)]at p;exact(z k r q e p).keepT hk
   ·rw[Zy (by omega)]at e;rw[Zy (by omega)]at p;rw[h1]at e;exact(F _ r q e p).keepT hk
  obtain⟨b,n',c',rfl⟩:=B.slice;have L:=B.len;rw[Zj]at L;subst L;exact J _ _ (I b c' w' B (TKeep.grown f E) ((Zg _ _).grown E G (fun k hk=>(f.lt k hk).1)))
attribute [local go_sem ↓] Go.wp_at_zero Go.wp_at_succ
theorem zsy(n:Nat):(madeCells (Value.bool false).cells (n*1)).toList=tcells (List.replicate n false):=by
 apply ZT;intro j;rw[show(Value.bool false).cells=#[.bool false]from rfl,Xi];by_cases hj:j<n
 ·simp[madeCells,tcells,hj,Nat.mod_one]
 ·simp[madeCells,tcells,hj]
theorem zf8{ops:Array Oper}{rest:List Oper}{o:Oper}{a:Act}{Q:Exit→Act→World→Prop}
  (hg:o.guard=none) (l c:Operand) (j:o.op=Op.makeSlice 123 l c) (n:Nat) (L:Int) (i:a.eval l=.int .i64 L) (hc:a.eval c=.int .i64 L) (f:L=(n:Int)) (s:n≤1048576) (H:Nat) (d:w.heap.size=H)
  (e:∀w1,BoolsS w1 w (H,n,n) (List.replicate n false)→Below w w w1→wpList prog ops Q rest (a.put o.dst (H,n,n)) w1):wpList prog ops Q (o::rest) a w:=by
 obtain⟨r,hi,m,p,q⟩:=info_parts zuV;subst d;subst f;refine wpList_make_full w hg l c 123 j w.heap.size 4 r _ 1 underlying123 hi m p .i64 .i64 n n n i hc rfl rfl (by rw[q];omega) (by unfold maxLen;omega) (Za _) ?_;intro w1 b g;rw[zsy]at b;exact e w1 ⟨by rw[Zr];exact b⟩ ((Zg _ _).grown g (Za _) (fun k hk=>by cases hk))
def zsn (n k:Nat):List Bool:=List.replicate k true++List.replicate (n-k) false
theorem zhU(n:Nat):zsn n 0=List.replicate n false:=by simp[zsn]
theorem zjB(n:Nat):zsn n n=List.replicate n true:=by simp[zsn]
theorem zoQ(h:k<n):(zsn n k).set k true=zsn n (k+1):=by
 unfold zsn;rw[XR,if_neg (by rw[Zr];omega),Zr,ZZ,show n-k=(n-(k+1))+1 by omega,XB,YB,Yz (n:=k),Xy];rfl
theorem zrF(h:k<n):(zsn n k)[k]? = some false:=by
 unfold zsn;rw[Zy (by rw[Zr];omega),Zr,ZZ,ZJ,if_pos (by omega)]
namespace Du
theorem zzg(n:Nat)(x:n≤64)(y:0<n)(w:World):Calls prog 84 #[(n:Int)] w fun e w'=>∃A,e=.returned (.slice A n n)∧BoolsS w' w (.slice A n n) (List.replicate n true)∧Below w w w':=by
 have u:min (n:Int) 64=(n:Int):=by omega
 have t:max (0:Int) (n:Int)=(n:Int):=by omega
 have s:¬((64:Int)<(n:Int)):=by omega
 go_enter func84,ntmps84;go_wp2_with (at_make;go_must (refine zf8 rfl _ _ rfl n _ rfl rfl rfl (by omega) w.heap.size rfl ?_;intro w1 j f;have o:=un j;have m:=un f;clear j f))
 go_loopw [11] (fun i wr=>∃k:Nat,i=.int .i64 k∧k≤n∧BoolsS wr w (w.heap.size,n,n) (zsn n k)∧Below w w wr)
  (fun i _=>n-(intOf i).toNat)
 case atStart=>exact⟨0,rfl,Zb _,by rw[zhU];exact o.o,m.o⟩
 case round =>
  obtain⟨k,rfl,hk,a,d⟩:=hrel;have c:=un a;have b:=un d;clear d;by_cases g:k<n
  ·have y0:=a.at_ (zrF g);have z:=a.fro k;have q:(0:Int)≤(k:Int):=Zf _;have r:(k:Int)<(n:Int):=by omega
   clear a;go_wp2;go_roundw
   case rel=>exact⟨k+1,by go_num,by omega,by rw[←zoQ g];exact c.o.store k true,b.o.setCell (p:=⟨w,k,none⟩) (Za _) _⟩
   case measure=>simp[intOf];omega
  ·obtain rfl:n=k:=by omega
   clear a;go_wp2;go_ret
   exact⟨_,rfl,by have h:=c.o;rw[zjB]at h;exact h,b.o⟩
theorem zwa(w:World):Calls prog 84 #[.int .i64 0] w fun e w'=>∃A,e=.returned (.slice A 0 0)∧BoolsS w' w (.slice A 0 0) []∧Below w w w':=by

 go_enter func84,ntmps84;go_wp2_with (at_make;go_must (refine zf8 rfl _ _ rfl 0 _ rfl rfl rfl (by omega) w.heap.size rfl ?_;intro w1 c b;have j:=un c;have g:=un b;clear c b))
 go_loopw [11] (fun i wr=>∃k:Nat,i=.int .i64 k∧k≤0∧BoolsS wr w (.slice (some ⟨w,0,none⟩) 0 0) (zsn 0 k)∧Below w w wr)
  (fun i _=>0-(intOf i).toNat)
 case atStart=>exact⟨0,rfl,Zb _,by rw[zhU];exact j.o,g.o⟩
 case round =>
  obtain⟨k,rfl,hk,d,a⟩:=hrel;have m:=un d;have f:=un a;clear a;by_cases n:k<0
  ·exact absurd n (ZK _)
  ·obtain rfl:k=0:=by omega
   clear d;go_wp2;go_ret
   exact⟨_,rfl,by have h:=m.o;rw[zjB]at h;exact h,f.o⟩
theorem all(n:Nat)(a:n≤64)(w:World):Calls prog 84 #[(n:Int)] w fun e w'=>∃A,e=.returned (.slice A n n)∧BoolsS w' w (.slice A n n) (List.replicate n true)∧Below w w w':=by grind[Nat.eq_zero_or_pos,zwa,zzg]
end Du
theorem zoD{xs:List Rat}{k:Nat}(hk:el xs k≠0):∀(f s:Nat),s≤k→k<s+f→(∀j,s≤j→j<k→el xs j=0)→zkZ xs f s=some k
 | 0,s,h1,h2,_=>by omega
 | f+1,s,h1,h2,hz=>by
  unfold zkZ;by_cases e:s=k
  ·subst e;rw[if_neg hk]
  ·rw[if_pos (hz s (Za _) (by omega))];exact zoD hk f (s+1) (by omega) (by omega) fun j a b=>hz j (by omega) b
theorem zk0{xs:List Rat}:∀(f s:Nat),(∀j,s≤j→j<s+f→el xs j=0)→zkZ xs f s=none
 | 0,_,_=>rfl
 | f+1,s,hz=>by
  unfold zkZ;rw[if_pos (hz s (Za _) (by omega))];exact zk0 f (s+1) fun j a b=>hz j (by omega) (by omega)
def zbh:Option Nat→Int
  | none => -1
  | some k=>(k:Int)
namespace Vc
theorem first(A:OA)(n c:Nat)(qs:List Rat)(H:Nat)(w:World)(h:VecS w H (A,n,c) qs) :
  Calls prog 144 #[(A,n,c)] w fun e w'=>e=.returned (.int .i64 (zbh (zkZ qs n 0)))∧Below w w w':=by
 have u:=h.len;have t:=h.form;have B:=un u;have E:=un h;have S:n≤9223372036854775807:=by have I:=t.2.2.1;unfold maxLen at I;omega
 clear h t u;go_enter func144,ntmps144;go_wp2
 go_loopw [7] (fun i wr=>∃k:Nat,i=.int .i64 k∧k≤n∧Below w w wr∧∀j,j<k→el qs j=0)
  (fun i _=>n-(intOf i).toNat)
 case atStart=>exact⟨0,rfl,Zb _,Zg _ _,fun j hj=>absurd hj (ZK _)⟩
 case round =>
  obtain⟨k,rfl,hk,f,m⟩:=hrel;have o:=un f;have q:=un m;by_cases J:k<n
  ·have r:=un (E.o.below f);obtain⟨b,rfl,N,O⟩:=r.o.has (by omega);have x:=zaH (xs:=qs) (j:=k) (by rw[←B.o];exact J);obtain⟨g,y,L,F,z,M,G,T,U,k2,s⟩:=r.o.at_ x;have D:=un s;have P:(0:Int)≤(k:Int):=Zf _;have Q:(k:Int)<(n:Int):=by omega
   clear f m s x;go_wp2_with fail
   refine(Rt.zero g y L F z M G (el qs k) _ (D.o.alloc _)).mono ?_;rintro e V ⟨rfl,hb⟩;have p:=un (o.o.trans (((zae wr _).trans (hb.mono (by simp))).mono o.o.size));clear hb;by_cases a:el qs k=0
   ·have K:zr (el qs k)=true:=Zs a;have d:=un (show ∀j,j<k+1→el qs j=0 from fun j hj=>by
     by_cases e:j=k
     ·rw[e];exact a
     ·exact q.o j (by omega))
    clear a;go_wp2;go_roundw
    case rel=>exact⟨k+1,by go_num,by omega,p.o,d.o⟩
    case measure=>simp[intOf];omega
   ·have K:zr (el qs k)=false:=Zu a;have d:=un (zoD a n 0 (Zb _) (by omega) fun j _ hj=>q.o j hj);clear a;go_wp2;go_ret
    exact⟨by rw[d.o];rfl,p.o⟩
  ·obtain rfl:n=k:=by omega
   have d:=un (zk0 (xs:=qs) n 0 fun j _ hj=>m j (by omega));clear f m;go_wp2;go_ret
   exact⟨by rw[d.o];rfl,o.o⟩
end Vc
theorem zkH{p:List Rat}{may:List Bool}{k:Nat}(hk:may.getD k false=true∧el p k<0):∀(f s:Nat),s≤k→k<s+f→(∀j,s≤j→j<k→¬(may.getD j false=true∧el p j<0))→zfV p may f s=some k
 | 0,s,h1,h2,_=>by omega
 | f+1,s,h1,h2,hz=>by
  unfold zfV;by_cases e:s=k
  ·subst e;rw[if_pos hk]
  ·rw[if_neg (hz s (Za _) (by omega))];exact zkH hk f (s+1) (by omega) (by omega) fun j a b=>hz j (by omega) b
theorem zhz{p:List Rat}{may:List Bool}:∀(f s:Nat),(∀j,s≤j→j<s+f→¬(may.getD j false=true∧el p j<0))→zfV p may f s=none
 | 0,_,_=>rfl
 | f+1,s,hz=>by
  unfold zfV;rw[if_neg (hz s (Za _) (by omega))];exact zhz f (s+1) fun j a b=>hz j (by omega) (by omega)
theorem zeh:q.num<0↔q<0:=by
 have h:=Yt (q:=q);grind
theorem zrN(h:q<0):q.num.sign<0:=by
 rw[YU (zeh.2 h)];decide
theorem zrO(h:¬q<0):0≤q.num.sign:=by
 have a:¬q.num<0:=fun e=>h (zeh.1 e)
 grind
namespace Pr
theorem z6d(A:OA)(n cA:Nat)(ps:List Rat)(H:Nat)(M:OA)(f U:Nat)(may:List Bool)(w:World)(h:VecS w H (A,n,cA) ps)(hm:zgu w M may)(K:f=may.length)(ah:f≤9223372036854775807) :
  Calls prog 112 #[(A,n,cA),(M,f,U)] w fun e w'=>e=.returned (.int .i64 (zbh (zdi ps may)))∧Below w w w':=by
 have z:=un h.len;have D:=un K;have B:=h.form;have ai:n≤9223372036854775807:=by have V:=B.2.2.1;unfold maxLen at V;omega
 have T:=un h;have O:=un hm;clear h hm B K;go_enter func112,ntmps112;go_wp2
 go_loopw [9] (fun i wr=>∃k:Nat,i=.int .i64 k∧k≤n∧Below w w wr∧∀j,j<k→¬(may.getD j false=true∧el ps j<0))
  (fun i _=>n-(intOf i).toNat)
 case atStart=>exact⟨0,rfl,Zb _,Zg _ _,fun j hj=>absurd hj (ZK _)⟩
 case round =>
  obtain⟨k,rfl,hk,s,x⟩:=hrel;have d:=un s;have E:=un x;by_cases Y:k<n
  ·have F:=un (T.o.below s);have P:=un (O.o.below s);obtain⟨b,rfl,ac,ad⟩:=F.o.has (by omega);have L:=zaH (xs:=ps) (j:=k) (by rw[←z.o];exact Y);obtain⟨g,o,t,q,p,u,r,k0,k1,k2,I⟩:=F.o.at_ L;have S:=un I;have ae:(0:Int)≤(k:Int):=Zf _;have af:(k:Int)<(n:Int):=by omega
   clear s x I L;have y:=un (show ¬(may.getD k false=true∧el ps k<0)→∀j,j<k+1→¬(may.getD j false=true∧el ps j<0)from fun h j hj=>by
    by_cases e:j=k
    ·rw[e];exact h
    ·exact E.o j (by omega))
   by_cases X:k<f
   ·have W:decide (k<f)=true:=by simp;omega
    have ag:(k:Int)<(f:Int):=by omega
    have J:may[k]? = some (may.getD k false):=zaO (by rw[←D.o];exact X);obtain⟨G,N,rfl,y0⟩:=P.o k _ J;clear J;cases hmv:may.getD k false with
    | false =>
     rw[hmv]at y0;have ab:(wr.alloc (.cells #[g,(o,t,q),(p,u,r)] 41)).cell? ⟨G,N+k,none⟩=some (.bool false):=cell_al y0;have a:=un (y.o (by rw[hmv];intro h;cases h.1));have m:=un (d.o.trans ((zae wr (.cells #[g,(o,t,q),(p,u,r)] 41)).mono d.o.size));clear hmv;go_wp2;go_roundw
     case rel=>exact⟨k+1,by go_num,by omega,m.o,a.o⟩
     case measure=>simp[intOf];omega
    | true =>
     rw[hmv]at y0;have ab:(wr.alloc (.cells #[g,(o,t,q),(p,u,r)] 41)).cell? ⟨G,N+k,none⟩=some (.bool true):=cell_al y0;have Q:=un hmv;clear hmv;go_wp2_with fail
     refine(Rt.sign g o t q p u r (el ps k) _ (S.o.alloc _)).mono ?_;rintro e w2 ⟨rfl,hb⟩;have m:=un (d.o.trans (((zae wr _).trans (hb.mono (by simp))).mono d.o.size));clear hb;by_cases c:el ps k<0
     ·have Z:=zrN c;have aa:=zeh.2 c;have a:=un (show zdi ps may=some k from zkH ⟨Q.o,c⟩ ps.length 0 (Zb _) (by rw[←z.o];omega) fun j _ hj=>E.o j hj);clear c;go_wp2;go_ret
      exact⟨by rw[a.o];rfl,m.o⟩
     ·have Z:=zrO c;have aa:¬(el ps k).num<0:=fun e=>c (zeh.1 e)
      have a:=un (y.o (fun h=>c h.2));clear c;go_wp2;go_roundw
      case rel=>exact⟨k+1,by go_num,by omega,m.o,a.o⟩
      case measure=>simp[intOf];omega
   ·have W:decide (k<f)=false:=by simp;omega
    have a:=un (y.o (fun h=>by
     have:may.getD k false=false:=by rw[Zi,Xq (by rw[←D.o];omega)];rfl
     rw[this]at h;cases h.1))
    have m:=un (d.o.trans ((zae wr (.cells #[g,(o,t,q),(p,u,r)] 41)).mono d.o.size));go_wp2;go_roundw
    case rel=>exact⟨k+1,by go_num,by omega,m.o,a.o⟩
    case measure=>simp[intOf];omega
  ·obtain rfl:n=k:=by omega
   have a:=un (show zdi ps may=none from zhz ps.length 0 fun j _ hj=>x j (by rw[z.o];omega));clear s x;go_wp2;go_ret
   exact⟨by rw[a.o];rfl,d.o⟩
theorem enter(A:OA)(n cA:Nat)(ps:List Rat)(H:Nat)(M:OA)(b a:Nat)(may:List Bool)(c:Nat)(w:World)(h:VecS w H (A,n,cA) ps)(hm:BoolsS w c (M,b,a) may) :
  Calls prog 112 #[(A,n,cA),(M,b,a)] w fun e w'=>e=.returned (.int .i64 (zbh (zdi ps may)))∧Below w w w' :=
 z6d A n cA ps H M b a may w h hm.reads hm.len (by have h1:=hm.form.2.1;have d:=hm.form.2.2.1;unfold maxLen at d;omega)
end Pr
theorem zdV{l:List Rat}(h:¬(may.getD k false=true∧el l k<0)):za4 p l may (k+1)=za4 p l may k:=by simp only[za4];rw[if_neg h]
theorem zkI{l:List Rat}(h:may.getD k false=true∧el l k<0)(e:za4 p l may k=none):za4 p l may (k+1)=some k:=by simp only[za4];rw[if_pos h,e]
theorem zl1{l:List Rat}(h:may.getD k false=true∧el l k<0)(e:za4 p l may k=some b)(a:el p k / -el l k<el p b / -el l b):za4 p l may (k+1)=some k:=by simp only[za4];rw[if_pos h,e];simp only;rw[if_pos a]
theorem zl0{l:List Rat}(h:may.getD k false=true∧el l k<0)(e:za4 p l may k=some b)(a:¬el p k / -el l k<el p b / -el l b):za4 p l may (k+1)=some b:=by simp only[za4];rw[if_pos h,e];simp only;rw[if_neg a]
theorem zhA{l:List Rat}(h:za4 p l may k=some b):b<k:=by
 have s:=zdW p l may k;rw[h]at s;exact s.1
theorem zyw(a b:Rat):mw (a/b)≤mw a+mw b:=by
 rw[XQ];have:=zdI a b⁻¹;have:=zva b;omega
theorem zm9{a b:Rat}:zlX a b<0↔a<b:=by
 unfold zlX;grind
theorem zDK(h:q<0) : -q≠0:=by grind
namespace Du
theorem enter(S:Nat)(hS:16*S+8≤LIM)(A:OA)(n cA:Nat)(ps:List Rat)(H:Nat)(B:OA)(Y cB:Nat)(c:List Rat)(H':Nat)(M:OA)(Z cm:Nat)(may:List Bool)(w:World)(G:VecS w H (A,n,cA) ps)(hl:VecS w H' (B,Y,cB) c)(bg:Z=may.length)(cz:Z≤9223372036854775807)(hm:zgu w M may)(zp:∀q∈ps,mw q≤S)(zl:∀q∈c,mw q≤S) :
  Calls prog 129 #[(A,n,cA),(B,Y,cB),(M,Z,cm)] w fun e w'=>e=.returned (.int .i64 (zbh (zhy ps c may)))∧Below w w w':=by
 have aG:=un G.len;have aE:=un hl.len;have aF:=un bg;have a1:=un G;have aX:=un hl;have aZ:=un hm;have a5:=un hS;have ZP:=un zp;have ZL:=un zl;have bR:n≤9223372036854775807:=by have h1:=G.form.2.1;have h2:=G.form.2.2.1;unfold maxLen at h2;omega
 have cy:Y≤9223372036854775807:=by have h1:=hl.form.2.1;have h2:=hl.form.2.2.1;unfold maxLen at h2;omega
 clear zp zl hS G hl hm bg;obtain⟨N,hN⟩:∃N,N=min n (min Y Z):=⟨_,rfl⟩
 have HN:=un hN;have cj:N≤n:=by omega
 have ck:N≤Y:=by omega
 have cn:N≤Z:=by omega
 clear hN;go_enter func129,ntmps129;go_upto_region 3 with fail
 go_cut[18,19] (fun a b wr=>a=.int .i64 (N:Int)∧b=.int .i64 0∧wr=w.alloc (.cells #[false,(),()] 41))
 case first =>
  go_wp2
  all_goals
   go_meet
   case rel=>exact⟨by congr 1;have:=HN.o;omega,rfl,rfl⟩
 case rest =>
  obtain⟨rfl,rfl,rfl⟩:=hcut;go_wp2
  go_loopw [7,19] (fun bv i wr=>∃(k:Nat) (x:Bool) (o:OA) (z u:Nat) (r:OA) (y s:Nat),i=.int .i64 k∧bv=.int .i64 (zbh (za4 ps c may k))∧k≤N∧wr.heap[w.heap.size]? = some (.cells #[x,(o,z,u),(r,y,s)] 41 (0,0))∧(∀b,za4 ps c may k=some b→RatS wr x (o,z,u) (r,y,s) (el ps b / -el c b))∧Below w w wr)
   (fun _ i _=>N-(intOf i).toNat)
  case atStart=>exact⟨0,_,_,_,_,_,_,_,rfl,rfl,Zb _,zal _ _ _,fun b h=>(by cases h),zae w _⟩
  case round =>
   obtain⟨k,x,o,z,u,r,y,s,rfl,rfl,hk,aM,hP,V⟩:=hrel;by_cases cx:k<N
   ·have bP:k<n:=by omega
    have bQ:k<Y:=by omega
    have be:k<Z:=by omega
    obtain⟨E,rfl,_,_⟩:=a1.o.has (by omega);obtain⟨D,rfl,_,_⟩:=aX.o.has (by omega);obtain⟨bm,om,rfl,_⟩:=aZ.o k _ (zaO (L:=may) (d:=false) (by rw[←aF.o];exact be));have aO:=zaH (xs:=ps) (j:=k) (by rw[←aG.o];exact bP);have aN:=zaH (xs:=c) (j:=k) (by rw[←aE.o];exact bQ);have bf:may[k]? = some (may.getD k false):=zaO (by rw[←aF.o];exact be);obtain⟨ga,Aa,ma,ca,Da,ar,ak,y0,y1,y2,bc⟩:=(a1.o.below V).at_ aO;obtain⟨gb,Ab,mb,cb,Db,ag,ad,z0,z1,z2,bd⟩:=(aX.o.below V).at_ aN
    obtain⟨ci,cF,aL,m0⟩:=(aZ.o.below V) k _ bf;injection aL with aL;injection aL with hbm1 hbm2;subst hbm1 hbm2;generalize hme:may.getD k false=mv at m0;have aw:=ZP.o _ (Zh aO);have ax:=ZL.o _ (Zh aN);have bE:=un (show RatS wr ga (Aa,ma,ca) (Da,ar,ak) (el ps k)from bc);have a3:=un (bd)
    have bB:=un (show ∀b,za4 ps c may k=some b→RatS wr x (o,z,u) (r,y,s) (el ps b / -el c b)from hP);have HW:=un (Bel.mk V);have bh:wr.cell? ⟨E,k*3,none⟩=some (.bool ga):=y0;have bi:wr.cell? ⟨E,k*3+1,none⟩=some (Aa,ma,ca):=y1;have bj:wr.cell? ⟨E,k*3+2,none⟩=some (Da,ar,ak):=y2;have bk:wr.cell? ⟨D,k*3,none⟩=some (.bool gb):=z0;have bn:wr.cell? ⟨D,k*3+1,none⟩=some (Ab,mb,cb):=z1;have bo:wr.cell? ⟨D,k*3+2,none⟩=some (Db,ag,ad):=z2
    have aB:=m0;have bX:=zaa aB;have aD:=bB;have a9:=un aM;have bh:=y0;have bi:=y1;have bj:=y2;have bk:=z0;have bn:=z1;have bo:=z2;have aB:=m0;have bX:=zaa aB;have aY:=un hme;have a7:=un aw;have a8:=un ax;have cp:(0:Int)≤(k:Int):=Zf _;have cq:(k:Int)<(N:Int):=by omega
    have cr:(k:Int)<(n:Int):=by omega
    have ct:(k:Int)<(Y:Int):=by omega
    have cu:(k:Int)<(Z:Int):=by omega
    clear aM hP V aO aN bf hme y0 y1 y2 z0 z1 z2 m0 bc bd aw ax;cases mv with
    | false =>
     have g:=un (zdV (p:=ps) (l:=c) (may:=may) (k:=k) (by rw[aY.o];intro h;cases h.1));go_wp2;go_roundw
     case rel=>exact⟨k+1,x,o,z,u,r,y,s,by go_num,by rw[g.o],by omega,a9.o,fun b h=>by rw[g.o]at h;exact aD.o b h,HW.o.b⟩
     case measure=>simp[intOf];omega
    | true =>
     go_wp2_with fail
     with_reducible refine(Rt.sign gb Ab mb cb Db ag ad (el c k) _ a3.o).mono ?_
     rintro e v1 ⟨rfl,hb⟩;have aU:=un (zad hb a9.o);have cf:=un (bE.o.below hb);have cg:=un (a3.o.below hb);have bs:=un (HW.o.below hb);obtain⟨bZ,_,_,_,b1,_,_,_,b4,_⟩:=bf3 aU.o;have b2:=zab hb bh;have b3:=zab hb bi;have b5:=zab hb bj;have b6:=zab hb bk;have b7:=zab hb bn;have b8:=zab hb bo;have b9:=zab hb aB;have aW:=un hb;clear hb;by_cases I:el c k<0
     ·have hs:=zrN I;have cC:¬0≤el c k:=Rat.not_le.2 I;have bD:=un (zDK I);have aC:=un (show may.getD k false=true∧el c k<0 from⟨aY.o,I⟩);have bA:=un (show 4*(mw (el ps k)+mw (-el c k))+8≤LIM by rw[zhY];have:=a5.o;have:=a7.o;have:=a8.o;omega);clear I;go_upto_region 7 with fail
      have HS:=un (show ∀w',Below v1 v1 w'→((w'.cell? ⟨w,0,none⟩=some (.bool x)∧w'.cell? ⟨w,1,none⟩=some (o,z,u)∧w'.cell? ⟨w,2,none⟩=some (r,y,s)∧w'.cell? ⟨E,k*3,none⟩=some (.bool ga)∧w'.cell? ⟨E,k*3+1,none⟩=some (Aa,ma,ca)∧w'.cell? ⟨E,k*3+2,none⟩=some (Da,ar,ak)∧w'.cell? ⟨D,k*3,none⟩=some (.bool gb)∧w'.cell? ⟨D,k*3+1,none⟩=some (Ab,mb,cb)∧w'.cell? ⟨D,k*3+2,none⟩=some (Db,ag,ad)∧w'.cell? ⟨bm,om+k,none⟩=some (.bool true))∧Below v1 v1 w')from fun w' h=>⟨⟨zab h bZ,zab h b1,zab h b4,zab h b2,zab h b3,zab h b5,zab h b6,zab h b7,zab h b8,zab h b9⟩,h⟩)
      go_cut[10] (fun bW wz=>zcD v1 bW wz (el ps k / -el c k))
      case first =>
       go_region_held3 (fun w'=>((w'.cell? ⟨w,0,none⟩=some (.bool x)∧w'.cell? ⟨w,1,none⟩=some (o,z,u)∧w'.cell? ⟨w,2,none⟩=some (r,y,s)∧w'.cell? ⟨E,k*3,none⟩=some (.bool ga)∧w'.cell? ⟨E,k*3+1,none⟩=some (Aa,ma,ca)∧w'.cell? ⟨E,k*3+2,none⟩=some (Da,ar,ak)∧w'.cell? ⟨D,k*3,none⟩=some (.bool gb)∧w'.cell? ⟨D,k*3+1,none⟩=some (Ab,mb,cb)∧w'.cell? ⟨D,k*3+2,none⟩=some (Db,ag,ad)∧w'.cell? ⟨bm,om+k,none⟩=some (.bool true))∧Below v1 v1 w'))
        ((refine HS.o _ ?_;repeat(first | exact Zg _ _ | exact(by assumption:_∧Below _ _ _).2 | with_reducible refine bdrew ?_ | with_reducible refine al2 ?_ _ | with_reducible refine set2 ?_ (by omega) | with_reducible refine zc1 ?_ (by assumption))))
        (first
         | (go_at_call 35;(with_reducible refine(Rt.neg gb Ab mb cb Db ag ad (el c k) _ (cg.o.below (by assumption:_∧Below _ _ _).2)).mono ?_);rintro e u1 ⟨g1,A1,m1,c1,D1,md1,cd1,rfl,hn,hb1⟩;have aw:=hb1.size;(try simp at aw);have cD:v1.heap.size≤u1.heap.size:=(by omega);(try((first | (have f:=un (zbc (cs:=#[.bool false,.slice none 0 0,.slice none 0 0]) (t:=41) hb1 f.o)) | (have f:=un (zbc (cs:=#[.bool false,.slice none 0 0,.slice none 0 0]) (t:=41) hb1 (zal _ _ _))));have bG:=zac f.o 0;have bJ:=zag f.o 0;have bH:=zac f.o 1;have bK:=zag f.o 1;have bI:=zac f.o 2;have bL:=zag f.o 2));have N1:=un hn;clear hn)
         | (go_at_call 146;(with_reducible refine(Rt.div ga Aa ma ca Da ar ak (el ps k) g1 A1 m1 c1 D1 md1 cd1 (-el c k) _ (cf.o.below (by assumption:_∧Below _ _ _).2) (by repeat(first | exact N1.o | with_reducible refine RatS.alloc ?_ _ | with_reducible refine RatS.drew ?_)) bD.o bA.o).mono ?_);rintro e u2 ⟨g2,A2,m2,c2,D2,md2,cd2,rfl,hn,hb2⟩;have ax:=hb2.size;(try simp at ax);(try((first | (have f:=un (zbc (cs:=#[.bool false,.slice none 0 0,.slice none 0 0]) (t:=41) hb2 f.o)) | (have f:=un (zbc (cs:=#[.bool false,.slice none 0 0,.slice none 0 0]) (t:=41) hb2 (zal _ _ _))));have bG:=zac f.o 0;have bJ:=zag f.o 0;have bH:=zac f.o 1;have bK:=zag f.o 1;have bI:=zac f.o 2;have bL:=zag f.o 2));have N7:=un hn;clear hn)
         | fail)
       all_goals
        go_wp2;go_meet
        case rel=>(have F:=(by assumption:_∧Below v1 v1 _).2;(first | (with_reducible refine zcD.of F ?_ f.o N7.o;omega) | (with_reducible refine zcD.al F ?_ N7.o;omega) | (with_reducible refine zcD.of F ?_ (zal _ _ _) (N7.o.alloc _);omega)))
      case rest =>
       obtain⟨J,U,O,W,Q,P,X,T,rfl,au,bR,av,hi⟩:=hcut;rename World=>wz
       have bC:=un (fun b h=>((aD.o b h).below aW.o).below au);have az:=un (zad au aU.o);have bu:=un (bs.o.below au);have HR:=un (hi);obtain⟨cN,cI,_,cL,cO,_,cQ,_,cR,_,cW,_⟩:=bf3 az.o;have cc:wz.cell? ⟨J,0,none⟩=some (.bool U):=zac av 0;have cd:wz.cell? ⟨J,1,none⟩=some (O,W,Q):=zac av 1;have ce:wz.cell? ⟨J,2,none⟩=some (P,X,T):=zac av 2;clear au HS;clear hi av;cases F:za4 ps c may k with
       | none =>
        have G:zbh none = -1:=rfl;rw[G];have g:=un (zkI aC.o F);go_wp2_with fail
        refine zaS (S:=fun w'=>w'.cell? ⟨J,0,none⟩=some (.bool U)∧w'.cell? ⟨J,1,none⟩=some (O,W,Q)∧w'.cell? ⟨J,2,none⟩=some (P,X,T)) [3] (h:=fun hHeld=>?_);refine zaw [0,1,2] ?_;repeat refine tkL (hS:=hHeld) (h:=?_)
        refine zao ?_;refine zay 3 (h:=fun K hK=>?_);go_simp;refine shutOff hK ?_;clear hK K
        refine zaM (h:=?_);go_wp2;go_roundw
        case rel=>exact⟨k+1,U,O,W,Q,P,X,T,by go_num,by rw[g.o];rfl,by omega,zar _ (zar _ (zar _ az.o)),fun b h=>by rw[g.o]at h;injection h with h;subst h;exact(HR.o.set3 az.o (by decide) _ _ _).drew,(Bel.set3 bu.o (Za _) _ _ _).drew.b⟩
        case measure=>simp[intOf];omega
       | some m =>
        have G:zbh (some m)=(m:Int):=rfl;rw[G];have aV:=un F;have a2:=un (bC.o m F);have co:=zhA F;have cw:¬(m:Int)<0:=by omega
        have bU:=ZP.o _ (Zh (zaH (xs:=ps) (j:=m) (by rw[←aG.o];omega)));have bV:=ZL.o _ (Zh (zaH (xs:=c) (j:=m) (by rw[←aE.o];omega)));have bz:=un (show 4*(mw (el ps k / -el c k)+mw (el ps m / -el c m))+8≤LIM by have h1:=zyw (el ps k) (-el c k);have h2:=zyw (el ps m) (-el c m);rw[zhY]at h1 h2;have:=a5.o;have:=a7.o;have:=a8.o;omega);clear F bU bV;go_wp2_with fail
        with_reducible refine(Rt.cmpr U O W Q P X T (el ps k / -el c k) x o z u r y s (el ps m / -el c m) _ HR.o a2.o bz.o).mono ?_
        rintro e v2 ⟨rfl,hb⟩;have aA:=un (zad hb az.o);have bq:=un (bu.o.below hb);have ch:=un (HR.o.below hb);have bY:=un (a2.o.below hb);obtain⟨_,cJ,_,cM,cK,_,cP,_,cV,_,cH,_⟩:=bf3 aA.o;have cS:=zab hb cc;have cT:=zab hb cd;have cU:=zab hb ce;clear hb;by_cases hc:el ps k / -el c k<el ps m / -el c m
        ·have bO:=zm9.2 hc;have g:=un (zl1 aC.o aV.o hc);go_wp2_with fail
         refine zaS (S:=fun w'=>w'.cell? ⟨J,0,none⟩=some (.bool U)∧w'.cell? ⟨J,1,none⟩=some (O,W,Q)∧w'.cell? ⟨J,2,none⟩=some (P,X,T)) [3] (h:=fun hHeld=>?_);refine zaw [0,1,2] ?_;repeat refine tkL (hS:=hHeld) (h:=?_)
         refine zao ?_;refine zay 3 (h:=fun K hK=>?_);go_simp;refine shutOff hK ?_;clear hK K
         refine zaM (h:=?_);go_wp2;go_roundw
         case rel=>exact⟨k+1,U,O,W,Q,P,X,T,by go_num,by rw[g.o];rfl,by omega,zar _ (zar _ (zar _ aA.o)),fun b h=>by rw[g.o]at h;injection h with h;subst h;exact(ch.o.set3 aA.o (by decide) _ _ _).drew,(Bel.set3 bq.o (Za _) _ _ _).drew.b⟩
         case measure=>simp[intOf];omega
        ·have bO:¬zlX (el ps k / -el c k) (el ps m / -el c m)<0:=fun h=>hc (zm9.1 h)
         have g:=un (zl0 aC.o aV.o hc);go_wp2;go_roundw
         case rel=>exact⟨k+1,x,o,z,u,r,y,s,by go_num,by rw[g.o];rfl,by omega,aA.o,fun b h=>by rw[g.o]at h;injection h with h;subst h;exact bY.o,bq.o.b⟩
         case measure=>simp[intOf];omega
     ·have hs:=zrO I
      have g:=un (zdV (p:=ps) (l:=c) (may:=may) (k:=k) (fun h=>I h.2));go_wp2;go_roundw
      case rel=>exact⟨k+1,x,o,z,u,r,y,s,by go_num,by rw[g.o],by omega,aU.o,fun b h=>by rw[g.o]at h;exact(aD.o b h).below aW.o,bs.o.b⟩
      case measure=>simp[intOf];omega
   ·obtain rfl:N=k:=by omega
    have g:=un (show zhy ps c may=za4 ps c may N by unfold zhy;rw[←aG.o,←aE.o,←aF.o,←HN.o]);have bx:=un V;clear aM hP V;go_wp2;go_ret
    exact⟨by rw[g.o];rfl,bx.o⟩
end Du
theorem VecS.setT(h:VecS w H v qs){p:Addr}(hg:w.heap[p.block]? = some (.cells cs t (0,0)))(h1:165≠t)(a:41≠t)(u:Value):VecS (w.setCell p u) H v qs:=by
 obtain⟨l,_,_,b⟩:=h.row;exact h.setCell (za6 b hg a) hg h1 u
theorem RatS.setT{g:Bool}{s d:Value}(h:RatS w g s d q){p:Addr}(hg:w.heap[p.block]? = some (.cells cs t (0,0)))(h1:165≠t)(u:Value):RatS (w.setCell p u) g s d q :=
 ⟨⟨h.num.abs.setCell hg h1 u,h.num.neg⟩,h.den.setCell hg h1 u⟩
theorem RowS.setT{w:World}{r:RR}{p:PRow}(h:RowS w r p){a:Addr}{t:TypeId}{cs:Array Value}(hg:w.heap[a.block]? = some (.cells cs t (0,0)))(h1:165≠t)(b:41≠t)(u:Value):RowS (w.setCell a u) r p :=
 ⟨h.coef.setT hg h1 b u,h.kind,h.rhs.setT hg h1 u⟩
theorem RowsL.setT{w:World}{H:Nat}{v:Value}{l:List RR}{ps:List PRow}(h:RowsL w H v l ps){a:Addr}{t:TypeId}{cs:Array Value}(hg:w.heap[a.block]? = some (.cells cs t (0,0)))(h1:165≠t)(d:41≠t)(f:43≠t)(u:Value):RowsL (w.setCell a u) H v l ps :=
 ⟨h.len,fun k r p b c=>(h.each k r p b c).setT hg h1 d u,zc9 h.own fun k hk=>Zk w a u k (fun e=>za6 h.own hg f (by rw[hk,e]))⟩
theorem zij.blk(h:zij w w')(a:w.heap[b]? = some (.cells cs t (0,0)))(c:43≠t):w'.heap[b]? = some (.cells cs t (0,0)) :=
 (h b (ZI.1 a).1 fun d e=>by rw[a]at e;grind).trans a
theorem RowsL.base'(h:RowsL w H v l ps)(b:a≤H):RowsL w a v l ps:=⟨h.len,h.each,zbu h.own b⟩
def zJI (ls:List LineV):List PRow:=ls.map zH6
theorem zKT{a:List LineV}{x:LineV}(h:a[k]? = some x):zJI (a.take (k+1))=zJI (a.take k)++[zH6 x]:=by
 unfold zJI;rw[ZN,h];simp
theorem zK7(a:List LineV):(zJI a).length=a.length:=by simp[zJI]
def From (N:Nat) (l:List RR):Prop:=∀(i:Nat) (ri:RR) (b:Nat),l[i]? = some ri→ri.c.ownBlock=some b→N≤b
theorem zLw(N:Nat):From N []:=fun i a b h=>by simp at h
theorem zKP{r:RR}(h:From N l)(hr:∀b,r.c.ownBlock=some b→N≤b):From N (l++[r]):=by
 intro i d b hi a;rcases Xr i l.length with h1 | h1 | h1
 ·rw[ZO h1]at hi;exact h i d b hi a
 ·subst h1;rw[Zy (Za _)]at hi;simp at hi;subst hi;exact hr b a
 grind
def zGF (w:World) (cost:List Rat) (rows:List PRow) (e:Ending) (w':World):Prop:=∃(C:OA) (nC cC:Nat) (R:OA) (nR cR:Nat) (l:List RR),e=.returned (.agg #[(C,nC,cC),(R,nR,cR)]) ∧
  VecS w' w (C,nC,cC) cost∧RowsL w' w (R,nR,cR) l rows∧Apart (C,nC,cC) l∧From w.heap.size l∧Below w w w'
namespace Lw
theorem zMg(A:OA)(s cA:Nat)(L:OA)(d D:Nat)(cs:List (Int × Int))(j:List LineV)(w:World)(hf:zcs w A cs)(aH:zex w L j)(hn:s=cs.length)(hm:d=j.length)(c:s≤1048576)(aF:d≤1000) :
  Calls prog 44 #[.agg #[(A,s,cA),(L,d,D)]] w (zGF w (frs cs) (zJI j)):=by
 have HN:=un hn;have HM:=un hm;have HB:=un c;have aU:=un aF;have bJ:d≤9223372036854775807:=by omega
 clear hn hm c aF;obtain⟨W,t⟩:∃W,((w.alloc (.cells #[(A,s,cA),(L,d,D)] 25)).alloc (.cells #[(),()] 31))=W:=⟨_,rfl⟩
 have N:=un (show W.heap[w.heap.size]? = some (.cells #[(A,s,cA),(L,d,D)] 25 (0,0))by rw[←t];exact zak (zam (by simp)));have aA:=un (show W.heap[w.heap.size+1]? = some (.cells #[(),()] 31 (0,0))by rw[←t];exact zam (by simp));have G:=un (show Below w w W by rw[←t];exact(zae w _).alloc (by simp) _);have M:=un (show w.heap.size+2≤W.heap.size by rw[←t];simp);have B:=un (show zcs W A cs by rw[←t];exact((hf).alloc _).alloc _)
 have I:=un (show zex W L j by rw[←t];exact((aH).alloc _).alloc _);obtain⟨bW,_,bX,bU⟩:=bc2 N.o;clear hf aH;go_enter func44,ntmps44;go_wp2_with fail
 clear t;with_reducible refine(make A s cA cs _ HN.o B.o HB.o).mono ?_
 rintro e w1 ⟨C,nC,cC,rfl,hv,c⟩;have bn:=un (show(w1.alloc (.cells #[(C,nC,cC),()] 31)).heap[w.heap.size]? = some (.cells #[(A,s,cA),(L,d,D)] 25 (0,0))from zak (zad c N.o));have u:=un (show VecS (w1.alloc (.cells #[(C,nC,cC),()] 31)) W.heap.size (C,nC,cC) (frs cs)from(hv).alloc _)
 have br:=un (show(w1.alloc (.cells #[(C,nC,cC),()] 31)).heap[w1.heap.size]? = some (.cells #[(C,nC,cC),()] 31 (0,0))from zam (by simp));obtain⟨_,_,bV,bY⟩:=bc2 bn.o;obtain⟨_,_,bZ,_⟩:=bc2 br.o;have az:=un (c.size);have aW:=un c;clear hv c;go_wp2
 go_loopw [4] (fun i wr=>∃(k:Nat) (R:OA) (m:Nat) (l:List RR),i=.int .i64 k∧k≤d∧wr.heap[w1.heap.size]? = some (.cells #[(C,nC,cC),(R,k,m)] 31 (0,0))∧RowsL wr W.heap.size (R,k,m) l (zJI (j.take k))∧VecS wr W.heap.size (C,nC,cC) (frs cs)∧Apart (C,nC,cC) l∧From W.heap.size l∧Below W.heap.size W wr)
  (fun i _=>d-(intOf i).toNat)
 case atStart=>exact⟨0,none,0,[],rfl,Zb _,zal _ _ _,RowsL.nil _ _,u.o,zLa _,zLw _,aW.o.alloc az.o _⟩
 case round =>
  obtain⟨k,R,m,l,rfl,hk,V,T,U,hA,aD,f⟩:=hrel;have HA:=un hA;have ax:=un aD;clear hA aD;by_cases bc:k<d
  ·obtain⟨x,X⟩:∃x,j[k]? = some x:=⟨j[k]'(by rw[←HM.o];exact bc),Ze _⟩
   obtain⟨xc,n,F,E⟩:=x;obtain⟨ak,ai,aj,b,o,P,q0,rfl,ag,Y,Z,k2,k3⟩:=I.o.below f k _ X;simp only at ak ai aj ag Y Z k2 k3;have z:=un (zad f N.o);have q:=un (zad f aA.o);have aY:=un (ag);have J:=un (T);have u:=un (U);have HW:=un (Bel.mk f)
   have aO:=un (G.o.trans ((f).mono G.o.size));obtain⟨am,_,an,_⟩:=bc2 z.o;obtain⟨ac,ab,ao,_,ad,aa,aq,_⟩:=bf2 q.o;have ap:=Y;have aK:=zaa ap;have ar:=Z;have aL:=zaa ar;have au:=k2;have aM:=zaa au;have av:=k3;have aN:=zaa av;have O:=un V;obtain⟨am,_,an,_⟩:=bc2 z.o
   obtain⟨bu,_,_,_,bv,_⟩:=bf2 O.o;have ap:=Y;have aK:=zaa ap;have ar:=Z;have aL:=zaa ar;have au:=k2;have aM:=zaa au;have av:=k3;have aN:=zaa av;have a7:=un ak;have a5:=un ai;have a6:=un aj;have aZ:=un X;have aV:=un (show b<W.heap.size from by obtain⟨_,_,_,b',o',C',bF,e,_,e2,_⟩:=I.o k _ X;injection e with e;injection e with e3;rw[←e3]at e2;exact blkOf e2);clear f V T U X ag Y Z k2 k3 ak ai aj;have bH:(0:Int)≤(k:Int):=Zf _
   have bI:(k:Int)<(d:Int):=by omega
   have bK:=M.o;have bG:=aV.o;go_wp2_with fail
   have a1:=un (show(zJI (j.take k)).length=k by rw[zK7,Zn,←HM.o];omega)
   refine za2 (S:=fun w'=>w'.cell? ⟨w,0,none⟩=some (A,s,cA)∧w'.cell? ⟨w,1,none⟩=some (.slice (some ⟨b,o,none⟩) d D)∧w'.cell? ⟨w1,0,none⟩=some (C,nC,cC)∧w'.cell? ⟨w1,1,none⟩=some (R,k,m)∧w'.cell? ⟨b,o+k*4,none⟩=some (P,xc.length,q0)∧w'.cell? ⟨b,o+k*4+1,none⟩=some (.int .i64 n)∧w'.cell? ⟨b,o+k*4+2,none⟩=some (.int .i64 F)∧w'.cell? ⟨b,o+k*4+3,none⟩=some (.int .i64 E)) 26 (h:=fun hHeld=>?_)
   refine zaw [0,1,2,3,4,5,6,7,9,10,11,12,13,14,15,16,17,18,19,20] ?_;repeat refine tkE (hS:=hHeld) (h:=?_)
   refine zao ?_;refine zaN 8 (h:=fun K g=>?_);go_simp
   (go_at_call 24;(with_reducible refine(make P xc.length q0 xc _ rfl aY.o.drew a7.o).mono ?_);rintro e u1 ⟨Q,nq,cq,rfl,hv,c⟩;have aP:=un (zad c z.o);have aS:=un (zad c O.o);have bl:=un (J.o.drew.below c);have bg:=un (u.o.drew.below c);have bD:=un (HW.o.drew.below c);have HQ:=un (show VecS u1 wr.heap.size (Q,nq,cq) (frs xc)from hv);obtain⟨b0,_,b1,_⟩:=bc2 aP.o;obtain⟨b4,_,_,_,b5,_⟩:=bf2 aS.o;have bt:=zab c aK;have bx:=zab c aL;have bA:=zab c aM;have bz:=zab c aN;clear hv c)
   (try go_wp2_with fail)
   refine shutOn g fun hHeld=>?_
   clear g K
   refine zaN 21 (h:=fun K g=>?_);go_simp
   (go_at_call 19;(with_reducible refine(one F E a5.o a6.o _).mono ?_);rintro e u2 ⟨g5,A5,m5,c5,D5,md5,cd5,rfl,hv,c⟩;have bo:=un (zad c aP.o);have aQ:=un (zad c aS.o);have bh:=un (bl.o.below c);have bi:=un (bg.o.below c);have aR:=un (bD.o.below c);have bj:=un (HQ.o.below c);have a3:=un (hv);obtain⟨bp,_,bq,_⟩:=bc2 bo.o;obtain⟨b2,_,_,_,b3,_⟩:=bf2 aQ.o;have bs:=zab c bt;have bw:=zab c bx;have bB:=zab c bA;have bC:=zab c bz;have bL:W.heap.size≤u2.heap.size:=aR.o.b.size;clear hv c)
   (try go_wp2_with fail)
   refine shutOn g fun hHeld=>?_
   clear g K
   refine zaw [22] ?_;repeat refine tkE (hS:=hHeld) (h:=?_)
   refine zao ?_;refine zaN 23 (h:=fun K g=>?_);go_simp;refine shutOn g fun hHeld=>?_
   clear g K
   refine zaN 24 (h:=fun K g=>?_)
   ((refine zKn (by rfl) _ _ (by rfl) (by rfl) (bh.o.alloc _) (by rfl) (zal _ _ _) (p:=zH6 ⟨xc,n,(F,E)⟩) ⟨(bj.o.alloc _).base (Zb _),rfl,a3.o.alloc _⟩ a1.o (by have:=aU.o;omega) (by simp;omega) ?_);intro R3 c3 w3 aE ah r;have a0:=un aE;have y:=un (ah.blk (zak aQ.o) (by decide));have p0:w3.cell? ⟨w1,0,none⟩=some (C,nC,cC):=zac y.o 0;have p1:w3.cell? ⟨w1,1,none⟩=some (R,k,m):=zac y.o 1;have bP:=zag y.o 1;have aX:=un ((bi.o.alloc _).keepR ah);have a4:=un ((aR.o.alloc _).b.trans r);have s0:=zKh r (show w.heap.size<W.heap.size by omega) (cell_al (ob:=.cells #[(Q,nq,cq),.int .i64 n,g5,(A5,m5,c5),(D5,md5,cd5)] 43) bp);have s1:=zKh r (show w.heap.size<W.heap.size by omega) (cell_al (ob:=.cells #[(Q,nq,cq),.int .i64 n,g5,(A5,m5,c5),(D5,md5,cd5)] 43) bq);have s2:=zKh r (show b<W.heap.size by omega) (cell_al (ob:=.cells #[(Q,nq,cq),.int .i64 n,g5,(A5,m5,c5),(D5,md5,cd5)] 43) bs);have s3:=zKh r (show b<W.heap.size by omega) (cell_al (ob:=.cells #[(Q,nq,cq),.int .i64 n,g5,(A5,m5,c5),(D5,md5,cd5)] 43) bw);have s4:=zKh r (show b<W.heap.size by omega) (cell_al (ob:=.cells #[(Q,nq,cq),.int .i64 n,g5,(A5,m5,c5),(D5,md5,cd5)] 43) bB);have s5:=zKh r (show b<W.heap.size by omega) (cell_al (ob:=.cells #[(Q,nq,cq),.int .i64 n,g5,(A5,m5,c5),(D5,md5,cd5)] 43) bC);clear aE ah r)
   refine shutOn g fun hHeld=>?_
   clear g K
   refine zaw [25] ?_;repeat refine tkE (hS:=hHeld) (h:=?_)
   refine zao ?_;refine zba (h:=fun K g=>?_);go_simp;refine shutOff g ?_;clear g K
   refine za1 (h:=?_)
   all_goals
    go_wp2;go_roundw
    case rel=>exact⟨k+1,R3,c3,_,by go_num,by omega,zar _ y.o,by rw[zKT aZ.o];exact a0.o.setT y.o (by decide) (by decide) (by decide) _,aX.o.setT y.o (by decide) (by decide) _,zKz HA.o J.o.coefLt (fun b c=>(u.o.lt c).2) (fun b c=>(HQ.o.lt c).1),zKP ax.o (fun b c=>Zc (HW.o.b.size) (HQ.o.lt c).1),ZQ a4.o (by show W.heap.size≤w1.heap.size;exact az.o) _⟩
    case measure=>simp[intOf];omega
  ·obtain rfl:d=k:=by omega
   have z:=un (zad f N.o);have q:=un (zad f aA.o);have J:=un (T);have u:=un (U);have aO:=un (G.o.trans ((f).mono G.o.size));obtain⟨am,_,an,_⟩:=bc2 z.o;obtain⟨ac,ab,ao,_,ad,aa,aq,_⟩:=bf2 q.o;have O:=un V;obtain⟨bu,_,bv,_⟩:=bc2 O.o
   clear V T U f;have B:=un (show zJI (j.take d)=zJI j by rw[HM.o,Xn]);go_wp2;refine Zd (v:=.agg #[(C,nC,cC),(R,d,m)]) (by simp[results,results44,go_sem,ac,ab,ad,aa]) rfl ?_;have h1:=J.o;rw[B.o]at h1;have h2:=(h1.base' (show w.heap.size≤W.heap.size by have:=M.o;omega)).setT (a:=⟨w.heap.size+1,0,none⟩) q.o (by decide) (by decide) (by decide) (C,nC,cC)
   have h3:=h2.setT (a:=⟨w.heap.size+1,1,none⟩) (zar _ q.o) (by decide) (by decide) (by decide) (R,d,m);have v2:=(u.o.base (show w.heap.size≤W.heap.size by have:=M.o;omega)).setT (p:=⟨w.heap.size+1,0,none⟩) q.o (by decide) (by decide) (C,nC,cC);have v3:=v2.setT (p:=⟨w.heap.size+1,1,none⟩) (zar _ q.o) (by decide) (by decide) (R,d,m)
   exact⟨_,_,_,_,_,_,l,rfl,v3,h3,HA.o,fun i ri b hi c=>Zc (show w.heap.size≤W.heap.size by have:=M.o;omega) (ax.o i ri b hi c),bsc (bsc aO.o)⟩
end Lw
theorem znO(h:w.ownsRow H e size v n xs)(hN:∀b,v.ownBlock=some b→N≤b):w.ownsRow N e size v n xs:=by
 refine⟨h.1,?_⟩;rcases h.2 with h2 | ⟨g,cap,cur,hv,hg,r⟩
 ·grind
 ·exact .inr ⟨g,cap,cur,hv,hN g (by rw[hv];rfl),r⟩
theorem VecS.raise(h:VecS w H v qs)(hN:∀b,v.ownBlock=some b→N≤b):VecS w N v qs:=by
 obtain⟨l,h1,a,c⟩:=h.row;exact⟨l,h1,a,znO c hN⟩
theorem zff.blk(h:zff w w')(a:w.heap[b]? = some (.cells cs t (0,0)))(c:41≠t):w'.heap[b]? = some (.cells cs t (0,0)) :=
 (h b (ZI.1 a).1 fun d e=>by rw[a]at e;grind).trans a
def zei (l:List RR) (k:Nat) (c:Value):List RR:=l.modify k fun r=>{ r with c:=c }
theorem zib{c:Value}{i:Nat}{r:RR}(h:(zei l k c)[i]? = some r):∃a,l[i]? = some a∧((i=k∧r.c=c)∨(i≠k∧r.c=a.c)):=by
 unfold zei at h;rw[Xk]at h;grind
theorem zsz{r:RR}(h:l[k]? = some r):zei l k r.c=l:=by
 unfold zei;apply ZT;intro i;rw[Xk];by_cases hk:k=i
 ·simp_all
 ·simp[hk]
structure RSt (w0 wz:World) (pb:Nat) (C:Value) (cost:List Rat) (R:Value) (l:List RR) (ps:List PRow) (k:Nat) (cv:Value) (qs:List Rat):Prop where
  res:wz.heap[w0.heap.size+1]? = some (.cells #[(),()] 31 (0,0))
  pbx:wz.heap[pb]? = some (.cells #[C,R] 31 (0,0))
  cost:VecS wz w0 C cost
  len:l.length=ps.length
  each:∀(i:Nat) (r:RR) (p:PRow),l[i]? = some r→ps[i]? = some p→(i≠k→VecS wz 0 r.c p.coef)∧r.k=p.kind∧RatS wz r.g r.s r.d p.rhs
  own:wz.ownsRow w0.heap.size 43 5 R ps.length (zcW l)
  cur:VecS wz w0 cv qs
  ap:Apart C (zei l k cv)
  fr:From w0.heap.size l
  bel:Below w0 w0 wz
namespace RSt
variable {w0 wz w':World} {pb:Nat} {C:Value} {cost:List Rat} {R:Value} {l:List RR} {ps:List PRow} {k:Nat} {cv:Value} {qs:List Rat}
theorem below(h:RSt w0 wz pb C cost R l ps k cv qs)(c:Below wz wz w'):RSt w0 w' pb C cost R l ps k cv qs :=
  ⟨zad c h.res,zad c h.pbx,h.cost.below c,h.len,fun i r p a b=>⟨fun e=>((h.each i r p a b).1 e).below c,(h.each i r p a b).2.1,(h.each i r p a b).2.2.below c⟩,
   zc9 h.own fun k hk=>c.block k (h.own.lt k hk).2,h.cur.below c,h.ap,h.fr,h.bel.trans (c.mono h.bel.size)⟩
theorem alloc(h:RSt w0 wz pb C cost R l ps k cv qs)(o:Obj):RSt w0 (wz.alloc o) pb C cost R l ps k cv qs:=h.below (zae wz o)
theorem drew(h:RSt w0 wz pb C cost R l ps k cv qs):RSt w0 wz.drew pb C cost R l ps k cv qs:=h.below (zap wz 1)
theorem append(h:RSt w0 wz pb C cost R l ps k cv qs)(hk:k<l.length){o:Value}(t:VecS w' w0 o (qs++[q]))(hr:zff wz w')(hg:wz.grownBy w' cv.ownBlock)(hc:o.ownBlock=cv.ownBlock∨∃b,o.ownBlock=some b∧wz.heap.size≤b) :
  RSt w0 w' pb C cost R l ps k o (qs++[q]):=by
 obtain⟨U,O⟩:∃r,l[k]? = some r:=⟨l[k],Ze hk⟩
 have E:(zei l k cv)[k]? = some { U with c:=cv }:=by unfold zei;rw[Xk,O];simp
 have Q:∀b,C.ownBlock=some b→w'.heap[b]? = wz.heap[b]?:=fun b d=>hg.block b (h.cost.lt d).2 fun e=>h.ap.2 k _ b E e.symm d
 have S:∀i r p,l[i]? = some r→ps[i]? = some p→i≠k→VecS w' 0 r.c p.coef:=by
  intro i r p h1 a D;have t:=(h.each i r p h1 a).1 D;refine t.keepAll (fun b d=>hg.block b (t.lt d).2 fun e=>?_) fun _ _ _ _ x=>x.keepT hr
  have P:(zei l k cv)[i]? = some r:=by unfold zei;rw[Xk,h1];grind
  exact D (h.ap.1 i k r _ b P E d e.symm)
 refine⟨hr.blk h.res (by decide),hr.blk h.pbx (by decide),h.cost.keepAll Q fun _ _ _ _ x=>x.keepT hr,h.len,fun i r p h1 a=>⟨S i r p h1 a,(h.each i r p h1 a).2.1,(h.each i r p h1 a).2.2.keepT hr⟩,?_,t,?_,h.fr,?_⟩
 ·refine zc9 h.own fun b d=>?_
  rcases h.own.2 with ⟨e,_⟩ | ⟨g,cap,cur,e,_,K,_⟩
  ·rw[e]at d;cases d
  ·rw[e]at d;injection d with d;subst d;exact(hr.blk K (by decide)).trans K.symm
 ·have L:∀(i:Nat) (r:RR) (b:Nat),(zei l k cv)[i]? = some r→r.c.ownBlock=some b→b<wz.heap.size:=by
   intro i r b h1 a;obtain⟨G,s,⟨rfl,f⟩ | ⟨f,B⟩⟩:=zib h1
   ·rw[f]at a;exact(h.cur.lt a).2
   ·obtain⟨p,N⟩:∃p,ps[i]? = some p:=⟨ps[i]'(by rw[←h.len];grind),Ze _⟩
    rw[B]at a;exact(((h.each i G p s N).1 f).lt a).2
  have F:∀(i:Nat) (r:RR) (b:Nat),(zei l k o)[i]? = some r→r.c.ownBlock=some b→(∃r',(zei l k cv)[i]? = some r'∧r'.c.ownBlock=some b)∨(i=k∧wz.heap.size≤b):=by
   intro i r b h1 a;obtain⟨G,s,⟨rfl,f⟩ | ⟨f,B⟩⟩:=zib h1
   ·rw[f]at a;grind
   ·exact .inl ⟨G,by unfold zei;rw[Xk,s];grind,by rw[←B];exact a⟩
  refine⟨fun i j I T b hi hj A M=>?_,fun i I b hi A J=>?_⟩
  ·rcases F i I b hi A with ⟨u,m,n⟩ | ⟨m,n⟩<;>rcases F j T b hj M with ⟨r2,y,z⟩ | ⟨y,z⟩
   ·exact h.ap.1 i j u r2 b m y n z
   ·have:=L i u b m n;omega
   ·have:=L j r2 b y z;omega
   ·omega
  ·rcases F i I b hi A with ⟨u,m,n⟩ | ⟨m,n⟩
   ·exact h.ap.2 i u b m n J
   ·have:=(h.cost.lt J).2;omega
 ·exact h.bel.grown hg h.bel.size fun b d=>(h.cur.lt d).1
end RSt
structure ROut (w0 w:World) (pb:Nat) (C:Value) (cost:List Rat) (R:Value) (l:List RR) (ps:List PRow):Prop where
  res:w.heap[w0.heap.size+1]? = some (.cells #[(),()] 31 (0,0))
  pbx:w.heap[pb]? = some (.cells #[C,R] 31 (0,0))
  cost:VecS w w0 C cost
  rows:RowsL w w0 R l ps
  ap:Apart C l
  fr:From w0.heap.size l
  bel:Below w0 w0 w
theorem ROut.below{w0 w w':World}{pb:Nat}{C:Value}{cost:List Rat}{R:Value}{l:List RR}{ps:List PRow}(h:ROut w0 w pb C cost R l ps)(a:Below w w w'):ROut w0 w' pb C cost R l ps :=
 ⟨zad a h.res,zad a h.pbx,h.cost.below a,h.rows.below a,h.ap,h.fr,h.bel.trans (a.mono h.bel.size)⟩
theorem ROut.drew{w0 w:World}{pb:Nat}{C:Value}{cost:List Rat}{R:Value}{l:List RR}{ps:List PRow}(h:ROut w0 w pb C cost R l ps):ROut w0 w.drew pb C cost R l ps:=h.below (zap w 1)
theorem RSt.start{R:Value}(h:ROut w0 wz pb C cost R l ps){r:RR}{p:PRow}(hr:l[k]? = some r)(e:ps[k]? = some p):RSt w0 wz pb C cost R l ps k r.c p.coef :=
 ⟨h.res,h.pbx,h.cost,h.rows.len,fun i r p h1 a=>⟨fun _=>(h.rows.each i r p h1 a).coef,(h.rows.each i r p h1 a).kind,(h.rows.each i r p h1 a).rhs⟩,h.rows.own,(h.rows.each k r p hr e).coef.raise fun b d=>h.fr k r b hr d,by rw[zsz hr];exact h.ap,h.fr,h.bel⟩
theorem zxs(h:w.ownsRow H e size (A,n,cap) n xs)(i:Nat)(hi:i≤n) :
  w.ownsRow H e size (A,i,cap) i (xs.take (i*size)):=by
 have f:i*size≤n*size:=Zt _ hi;refine⟨by rw[Zn,h.1];omega,?_⟩;rcases h.2 with ⟨a,m⟩ | ⟨g',j,cur,a,b,hg,o,c,d,g⟩
 ·grind
 ·injection a with e1 e2 e3;subst e1 e3;exact .inr ⟨g',cap,cur,rfl,b,hg,by omega,c,d,by rw[←g,YS,Xb f]⟩
theorem zqu(l:List RV):∀k,(rcells l).take (k*3)=rcells (l.take k):=by
 induction l with
 | nil=>intro k;simp[rcells]
 | cons a l ih =>
  intro k;cases k with
  | zero=>simp[rcells]
  | succ k=>rw[show(k+1)*3=k*3+1+1+1 by omega,zcy];simp[zcy,ih]
theorem VecS.cut(h:VecS w H (A,n,cap) qs)(i:Nat)(hi:i≤n):VecS w H (A,i,cap) (qs.take i):=by
 have f:=h.len;subst f;obtain⟨l,h1,d,e⟩:=h.row;refine⟨l.take i,by simp[h1],fun k r q a b=>?_,?_⟩
 ·rw[Yj]at a b;grind
 ·have c:=zxs e i hi;rw[zqu]at c;rw[Zn,Xb hi];exact c
theorem zA4(h:w.ownsRow H e size (b,n,cap) n xs):∃cur,w.heap[b]? = some (.cells cur e (0,0))∧H≤b:=by
 rcases h.2 with ⟨a,i⟩ | ⟨g',d,cur,a,c,hg,j,f,g,m⟩
 ·cases a
 grind
theorem zq7{o:Nat}{f:Array Value}{d:TypeId}(u:Value)(h:w.heap[b]? = some (.cells cs t (0,0)))(a:w.heap[c]? = some (.cells f d (0,0)))(g:t≠d):(w.setCell ⟨b,o,none⟩ u).heap[c]? = some (.cells f d (0,0)):=by grind[Below.heap_setCell]
theorem RSt.put{q G J:Nat}(h:RSt w0 wz pb C cost (q,G,J) l ps k (A,n,c) qs)(O:G=ps.length)(nc:Nat)(P:nc≤n) :
  ROut w0 (wz.setCell ⟨q,k*5,none⟩ (A,nc,c)) pb C cost (q,G,J) (zei l k (A,nc,c)) (ps.modify k fun p=>{ p with coef:=qs.take nc }):=by
 subst O;obtain⟨cur,hg,N⟩:=zA4 h.own;have hcut:=h.cur.cut nc P;have F:∀(i:Nat) (r:RR) (b:Nat),(zei l k (A,nc,c))[i]? = some r→r.c.ownBlock=some b→∃r',(zei l k (A,n,c))[i]? = some r'∧r'.c.ownBlock=some b:=by
  intro i r b h1 f;obtain⟨o,x,⟨rfl,m⟩ | ⟨m,y⟩⟩:=zib h1
  ·exact⟨{ o with c:=.slice A n c },by unfold zei;rw[Xk,x];simp,by rw[m]at f;cases A with
    | none=>cases f
    | some a=>exact f⟩
  ·exact⟨o,by unfold zei;rw[Xk,x];grind,by rw[←y];exact f⟩
 refine⟨zq7 _ hg h.res (by decide),zq7 _ hg h.pbx (by decide),h.cost.setT (p:=⟨q,k*5,none⟩) hg (by decide) (by decide) _,⟨by simp[zei,h.len],?_,?_⟩,⟨fun i j B S b hi hj t M=>?_,fun i B b hi t=>?_⟩,fun i B b hi t=>?_,h.bel.setCell N _⟩
 ·intro i r p h1 f;obtain⟨o,x,Q⟩:=zib h1;have u:r.k=o.k∧r.g=o.g∧r.s=o.s∧r.d=o.d:=by
   unfold zei at h1;rw[Xk,x]at h1;simp at h1;split at h1<;>(grind)
  rw[Xk]at f;cases e:ps[i]? with
  | none=>rw[e]at f;simp at f
  | some p0 =>
   rw[e]at f;simp at f;have z:=h.each i o p0 x e;rcases Q with ⟨rfl,m⟩ | ⟨m,y⟩
   ·rw[if_pos rfl]at f;subst f;refine⟨by rw[m];exact((hcut.base (Zb _)).setT (p:=⟨q,i*5,none⟩) hg (by decide) (by decide) _),by rw[u.1];exact z.2.1,by rw[u.2.1,u.2.2.1,u.2.2.2];exact z.2.2.setT (p:=⟨q,i*5,none⟩) hg (by decide) _⟩
   ·rw[if_neg (fun e=>m e.symm)]at f;subst f;refine⟨by rw[y];exact((z.1 m).setT (p:=⟨q,k*5,none⟩) hg (by decide) (by decide) _),by rw[u.1];exact z.2.1,by rw[u.2.1,u.2.2.1,u.2.2.2];exact z.2.2.setT (p:=⟨q,k*5,none⟩) hg (by decide) _⟩
 ·rw[Ya,zei,←zpb];exact(h.own.stored _ _).1
 ·obtain⟨I,D,E⟩:=F i B b hi t;obtain⟨r2,K,L⟩:=F j S b hj M;exact h.ap.1 i j I r2 b D K E L
 ·obtain⟨I,D,E⟩:=F i B b hi t;exact h.ap.2 i I b D E
 ·obtain⟨o,x,⟨rfl,m⟩ | ⟨m,y⟩⟩:=zib hi
  ·rw[m]at t;exact(hcut.lt t).1
  ·rw[y]at t;exact h.fr i o b x t
theorem ROut.putK{q D E:Nat}(h:ROut w0 w pb C cost (q,D,E) l ps)(P:D=ps.length)(k:Nat)(z:Int) :
  ROut w0 (w.setCell ⟨q,k*5+1,none⟩ (.int .i64 z)) pb C cost (q,D,E) (l.modify k fun r=>{ r with k:=z }) (ps.modify k fun p=>{ p with kind:=z }):=by
 subst P;obtain⟨cur,hg,O⟩:=zA4 h.rows.own;have x:∀(i:Nat) (r:RR),(l.modify k fun r=>{ r with k:=z })[i]? = some r→∃f,l[i]? = some f∧r.c=f.c∧r.g=f.g∧r.s=f.s∧r.d=f.d∧(if k=i then r.k=z else r.k=f.k):=by grind
 refine⟨zq7 _ hg h.res (by decide),zq7 _ hg h.pbx (by decide),h.cost.setT (p:=⟨q,k*5+1,none⟩) hg (by decide) (by decide) _,⟨by simp[h.rows.len],?_,?_⟩,⟨fun i j A Q b hi hj t M=>?_,fun i A b hi t=>?_⟩,fun i A b hi t=>?_,h.bel.setCell O _⟩
 ·intro i r p h1 m;obtain⟨f,N,F,G,I,J,B⟩:=x i r h1;rw[Xk]at m;cases e:ps[i]? with
  | none=>rw[e]at m;simp at m
  | some p0 =>
   rw[e]at m;simp at m;have u:=(h.rows.each i f p0 N e).setT (a:=⟨q,k*5+1,none⟩) hg (by decide) (by decide) (.int .i64 z);by_cases hk:k=i
   ·rw[if_pos hk]at m B;subst m;exact⟨by rw[F];exact u.coef,B,by rw[G,I,J];exact u.rhs⟩
   grind
 ·rw[Ya,←zKM];exact(h.rows.own.stored _ _).1
 ·obtain⟨y,n,o,_⟩:=x i A hi;obtain⟨r2,K,L,_⟩:=x j Q hj;exact h.ap.1 i j y r2 b n K (by rw[←o];exact t) (by rw[←L];exact M)
 ·obtain⟨y,n,o,_⟩:=x i A hi;exact h.ap.2 i y b n (by rw[←o];exact t)
 ·obtain⟨y,n,o,_⟩:=x i A hi;exact h.fr i y b n (by rw[←o];exact t)
theorem zH7{p d:Int}(a:I64 p)(c:I64 d):mw (fr p d)≤1:=by
 unfold fr;grind[zu9,zhX,zdl]
theorem zyq{ps:List (Int × Int)}(h:zcs w A ps):∀q∈frs ps,mw q≤1:=by
 intro q b;obtain⟨x,c,rfl⟩:=Zq.1 b;obtain⟨k,hk⟩:=Z0.1 c;obtain⟨h1,a,_⟩:=h k x hk;grind[zH7]
