/- Contracts and lemmas: Prob5 StdM Prob4. Conditions: as each says. -/
import Derived.Test.YtbhfhkcdfmmmiaaGreatDoorVec7Zd
import Derived.Test.YtbhfhkcdfmmmiaaGreatDoorMat5Zd
set_option linter.all false
set_option maxHeartbeats 4000000
set_option maxRecDepth 100000
namespace Go.Proofs.YtbhfhkcdfmmmiaaGreatDoor
open Go.RowKit Am
open Lib (hid)
attribute [local go_sem ↓] Go.wp_at_zero Go.wp_at_succ
variable {xs:List Int}{qs:List Rat}{H N b n:Nat}{p:PRow}{q:Rat}{v:Value}{w:World}
abbrev Kinds (rows:List PRow):Prop:=∀p∈rows,1≤p.kind∧p.kind≤3
namespace Pb
theorem may(C:OA)(nc cc:Nat)(R:OA)(nr d:Nat)(cost:List Rat)(rows:List PRow)(w:World)(hc:VecS w 0 (C,nc,cc) cost)(hr:RowsS w 0 (R,nr,d) rows)(P:nc≤24)(ac:nr≤20)(z:Rows nc rows)(x:Kinds rows) :
  Calls Tryz.prog 15 #[.agg #[(C,nc,cc),(R,nr,d)]] w fun e w'=>e=.returned .nilIface∧Below w.heap.size w w':=by
 have y:=hr.len;have G:=hid y;have H:=hid z;have u:=hid x;have J:(nc:Int)≤24:=by omega
 have T:¬(24:Int)<(nc:Int):=by omega
 have ad:¬(20:Int)<(nr:Int):=by omega
 clear z x y;obtain⟨W,f⟩:∃W,(w.alloc (.cells #[(C,nc,cc),(R,nr,d)] 31))=W:=⟨_,rfl⟩
 have q:=hid (show W.heap[w.heap.size]? = some (.cells #[(C,nc,cc),(R,nr,d)] 31 (0,0))by rw[←f];exact zam (by simp));have l:=hid (show Below w.heap.size w W by rw[←f];exact zae w _);have n:=hid (show RowsS W 0 (R,nr,d) rows by rw[←f];exact(hr).alloc _);obtain⟨ai,_,aj,ah⟩:=bc2 q.out;clear hc hr;go_enter Tryz.func15,Tryz.ntmps15;go_wp2;clear f
 go_loopw [19] (fun i wr=>∃k:Nat,i=.int .i64 k∧k≤nr∧Below W.heap.size W wr)
  (fun i _=>nr-(intOf i).toNat)
 case atStart=>exact⟨0,rfl,Nat.zero_le _,Below.refl _ _⟩
 case round =>
  obtain⟨k,rfl,hk,a⟩:=hrel;by_cases K:k<nr
  ·obtain⟨p,j⟩:∃p,rows[k]? = some p:=⟨rows[k]'(by rw[←G.out];exact K),List.getElem?_eq_getElem _⟩
   obtain⟨b,rfl,S,J⟩:=n.out.has (by omega);obtain⟨Q,nq,o,g,A,m,c,D,s,r,k0,k1,k2,k3,k4,B,_⟩:=(n.out.below a).at_ j;obtain rfl:nc=nq:=by rw[B.len,(H.out p (List.mem_of_getElem? j)).1]
   have X:=(u.out p (List.mem_of_getElem? j)).1;have Y:=(u.out p (List.mem_of_getElem? j)).2;have Z:¬p.kind<1:=by omega
   have aa:¬3<p.kind:=by omega
   have F:=hid (zad a q.out);have I:=hid (Bel.mk a);have E:=hid (l.out.trans ((a).mono l.out.size));clear a j B;have U:(0:Int)≤(k:Int):=Int.natCast_nonneg _;have V:(k:Int)<(nr:Int):=by omega
   have v:=zae wr (.cells #[(Q,nc,o),.int .i64 p.kind,g,(A,m,c),(D,s,r)] 75);have L:=hid (zad v F.out);have N:=hid (I.out.below v);obtain⟨ak,_⟩:=bc2 L.out;have al:(wr.alloc (.cells #[(Q,nc,o),.int .i64 p.kind,g,(A,m,c),(D,s,r)] 75)).cell? ⟨wr.heap.size,0,none⟩=some (Q,nc,o):=zax rfl rfl;have am:(wr.alloc (.cells #[(Q,nc,o),.int .i64 p.kind,g,(A,m,c),(D,s,r)] 75)).cell? ⟨wr.heap.size,1,none⟩=some (.int .i64 p.kind):=zax rfl rfl
   go_wp2;go_roundw
   case rel=>exact⟨k+1,by go_num,by omega,N.out.b⟩
   case measure=>simp[intOf];omega
  ·have ab:k=nr:=by omega
   have F:=hid (zad a q.out);have E:=hid (l.out.trans ((a).mono l.out.size));clear a;go_wp2;go_ret
   exact⟨rfl,E.out⟩
end Pb
theorem IntsZ.push{w':World}{a:Value}{x:Int}(b:w'.ownsRow H 3 1 a (xs.length+1) (zcells xs++[.int .i64 x])):IntsZ w' H a (xs++[x]):=by
 refine⟨?_⟩;rw[List.length_append];simpa[zcells]using b
theorem zfS{ops:Array Oper}{rest:List Oper}{o:Oper}{a:Act}{Q:Exit→Act→World→Prop}(p:o.guard=none)(s x:Operand)
  (y:o.op=.call { callee:=.builtin .append,args:=#[s,x],argTypes:=#[32,32] })    (B:a.eval s=v) (e:IntsZ w H v xs)  (C:a.eval x=.slice (some ⟨b,0,none⟩) 1 1)
  {z:Int} (m:w.heap[b]? = some (.cells #[.int .i64 z] 3 (0,0)))  (t:xs.length=n) (I:n+1≤1000000) (f:H≤w.heap.size)
  (j:∀c c' w',IntsZ w' H (.slice c (n+1) c') (xs++[z])→TKeep 3 w w'→Below H w w'→wpList Tryz.prog ops Q rest (a.put o.dst (.slice c (n+1) c')) w'):wpList Tryz.prog ops Q (o::rest) a w:=by
 subst t;obtain⟨G,r,D,E,F⟩:=info_parts znF;refine wpList_plain p fun K l=>?_
 refine wp_append_own w s x 32 y H 3 G _ 1 8 Tryz.underlying32 r D E F rfl (by decide) v xs.length (zcells xs) B e.own ⟨b,0,none⟩ 1 1 [.int .i64 z] C rfl (zrj m)
  (by intro u i;simp at i;subst i;rfl) (by unfold maxLen;omega) (by omega) f ?_
 intro J w' A g _;have d:=IntsZ.push A;obtain⟨c,c',rfl⟩:=d.slice;rw[List.length_append]at d;have q:=j c c' w' d (TKeep.grown e.own g) ((Below.refl _ _).grown g f (fun k hk=>(e.own.lt k hk).1));simp only[List.length_append,List.length_cons,List.length_nil,Nat.zero_add];exact l _ _ q
theorem zfR{ops:Array Oper}{rest:List Oper}{o:Oper}{a:Act}{Q:Exit→Act→World→Prop}(E:o.guard=none)(s x:Operand)
  (G:o.op=.call { callee:=.builtin .append,args:=#[s,x],argTypes:=#[28,28] })    (L:a.eval s=v) (M:VecS w H v qs)  (O:a.eval x=.slice (some ⟨b,0,none⟩) 1 1)
  {g:Bool} {A:OA} {m c:Nat} {D:OA} {p f:Nat}  (C:w.heap[b]? = some (.cells #[g,(A,m,c),(D,p,f)] 49 (0,0))) (J:RatS w g (A,m,c) (D,p,f) q)  (hN:qs.length=N) (U:N+1≤1000000) (r:H≤w.heap.size)
  (z:∀d c' w',VecS w' H (.slice d (N+1) c') (qs++[q])→TKeep 49 w w'→Below H w w'→wpList Tryz.prog ops Q rest (a.put o.dst (.slice d (N+1) c')) w'):wpList Tryz.prog ops Q (o::rest) a w:=by
 subst hN;obtain⟨T,F,P,R,S⟩:=info_parts ze0;obtain⟨l,h1,y,e⟩:=M.row;refine wpList_plain E fun K B=>?_
 refine wp_append_own w s x 28 G H 49 T _ 3 56 Tryz.underlying28 F P R S rfl (by decide) v qs.length (rcells l) L e ⟨b,0,none⟩ 1 1 [.bool g,.slice A m c,.slice D p f] O rfl (zC6 C)
  (by intro u t;simp at t;rcases t with rfl | rfl | rfl<;>rfl) (by unfold maxLen;omega) (by omega) r ?_
 intro W w' I j _;have i:=VecS.append h1 y e J I j;obtain⟨d,V,c',rfl⟩:=i.slice;have n:=i.len;rw[List.length_append]at n;simp only[List.length_cons,List.length_nil,Nat.zero_add]at n;subst n;exact B _ _ (z d c' w' i (TKeep.grown e j) ((Below.refl _ _).grown j r (fun k hk=>(e.lt k hk).1)))
theorem zmp(n:Nat):(Builtin.zeroCells (Value.agg #[false,(),()]).cells n).toList=rcells (List.replicate n (false,.slice none 0 0,.slice none 0 0)):=by
 apply List.ext_getElem?;intro j;have d:(Value.agg #[false,(),()]).cells=#[.bool false,.slice none 0 0,.slice none 0 0]:=rfl;rw[d];by_cases hj:j<n*3
 ·have h1:(Builtin.zeroCells #[false,(),()] n).toList[j]? = some (#[Value.bool false,(),()][j%3]!):=by
   simp[Builtin.zeroCells,hj]
  have hk:(List.replicate n ((false,.slice none 0 0,.slice none 0 0):RV))[j/3]? = some (false,.slice none 0 0,.slice none 0 0):=by
   rw[List.getElem?_replicate,if_pos (by omega)]
  obtain⟨a,b,c⟩:=ziI _ _ _ hk;rw[h1];rcases(by omega:j%3=0∨j%3=1∨j%3=2)with e | e | e
  ·rw[e];rw[show j/3*3=j by omega]at a;rw[a];rfl
  ·rw[e];rw[show j/3*3+1=j by omega]at b;rw[b];rfl
  ·rw[e];rw[show j/3*3+2=j by omega]at c;rw[c];rfl
 ·rw[List.getElem?_eq_none (by simp[Builtin.zeroCells];omega),List.getElem?_eq_none (by rw[zcC];simp;omega)]
theorem zb3{ops:Array Oper}{rest:List Oper}{o:Oper}{a:Act}{Q:Exit→Act→World→Prop}(z:o.guard=none)(s x:Operand)
  (C:o.op=.call { callee:=.builtin .append,args:=#[s,x],argTypes:=#[28,3] })    (E:a.eval s=v) (F:VecS w H v qs)  {M:Int} (G:a.eval x=.int .i64 M) (y:M=(n:Int))
   (hN:qs.length+n=N) (S:N≤1000000) (i:H≤w.heap.size)
  (t:∀d c' w',VecS w' H (.slice d N c') (qs++List.replicate n 0)→TKeep 49 w w'→Below H w w'→wpList Tryz.prog ops Q rest (a.put o.dst (.slice d N c')) w'):wpList Tryz.prog ops Q (o::rest) a w:=by
 subst hN;subst y;obtain⟨O,A,I,J,L⟩:=info_parts ze0;obtain⟨l,h1,p,e⟩:=F.row;refine wpList_plain z fun K u=>?_
 obtain⟨R,w',D,m,g⟩:=zgk (P:=Tryz.prog) w H 28 3 o.type 49 O _ 3 56 .i64 Tryz.underlying28 Tryz.underlying3 A I J L rfl (by decide) v qs.length (rcells l) e n
  (by rw[zmp];exact ziJ _ fun r hr=>by obtain⟨_,rfl⟩:=List.mem_replicate.1 hr;exact⟨rfl,rfl⟩) (by unfold maxLen;omega) (by omega) i
 rw[zmp]at m;have hk:=zh3 e g;have f:VecS w' H R (qs++List.replicate n 0):=by
  refine⟨l++List.replicate n (false,.slice none 0 0,.slice none 0 0),by simp[h1],fun k r q b c=>?_,by rw[List.length_append,zh4,List.length_replicate];exact m⟩;by_cases B:k<l.length
  ·rw[List.getElem?_append_left B]at b;rw[List.getElem?_append_left (by omega)]at c;exact(p k r q b c).keepT hk
  ·rw[List.getElem?_append_right (by omega),List.getElem?_replicate]at b;rw[List.getElem?_append_right (by omega),List.getElem?_replicate]at c;split at b
   ·injection b with b;rw[if_pos (by omega)]at c;injection c with c;subst b c;exact RatS.zero _
   ·cases b
 obtain⟨d,T,c',rfl⟩:=f.slice;have j:=f.len;rw[List.length_append,List.length_replicate]at j;subst j;exact Lib.wp_append_run w s x 28 3 C v _ E G _ w' D (u _ _ (t d c' w' f (TKeep.grown e g) ((Below.refl _ _).grown g i (fun k hk=>(e.lt k hk).1))))
def zIc (p:PRow) (q:Rat):Bool := !(decide (p.kind=1)&&decide (0<q)||decide (p.kind=2)&&decide (q<0))
def zxD (rows:List PRow) (ys:List Rat) (k:Nat):Bool:=(List.range k).all fun i=>zIc (rows.getD i default) (el ys i)
def zId (rows:List PRow) (ys:List Rat):Bool:=zxD rows ys rows.length
theorem zfC{rows:List PRow}{k:Nat}(h:rows[k]? = some p):rows.getD k default=p:=by rw[List.getD_eq_getElem?_getD,h];rfl
theorem yd3(h:p.kind=1):zIc p q = !(decide (0<q)):=by unfold zIc;rw[decide_eq_true h,decide_eq_false (show ¬p.kind=2 by omega)];simp
theorem yd4(h:p.kind=2):zIc p q = !(decide (q<0)):=by unfold zIc;rw[decide_eq_true h,decide_eq_false (show ¬p.kind=1 by omega)];simp
namespace Ct
