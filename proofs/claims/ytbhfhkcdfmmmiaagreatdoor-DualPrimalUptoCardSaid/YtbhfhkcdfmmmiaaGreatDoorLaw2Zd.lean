/- Contracts and lemmas: Law2 Law2b AppV Sv Fr Law3. Conditions: as each says. -/
import Derived.Test.YtbhfhkcdfmmmiaaGreatDoorProb5Zd
set_option linter.all false
set_option maxHeartbeats 4000000
set_option maxRecDepth 100000
namespace Go.Proofs.YtbhfhkcdfmmmiaaGreatDoor
open Go.RowKit Am
open Lib (hid)
attribute [local go_sem ↓] Go.wp_at_zero Go.wp_at_succ
variable {p:Addr}{cs:Array Value}{ps:List PRow}{l:List RR}{cost qs:List Rat}{xs:List Value}{H N a b c cap k n nR o pb size:Nat}{A:OA}{q:Rat}{e t:TypeId}{C v:Value}{w w' w0 wz:World}
theorem VecS.setT(h:VecS w H v qs)(hg:w.heap[p.block]? = some (.cells cs t (0,0)))(h1:184≠t)(a:49≠t)(u:Value):VecS (w.setCell p u) H v qs:=by
 obtain⟨l,_,_,b⟩:=h.row;exact h.setCell (za6 b hg a) hg h1 u
theorem RatS.setT{g:Bool}{s d:Value}(h:RatS w g s d q)(hg:w.heap[p.block]? = some (.cells cs t (0,0)))(h1:184≠t)(u:Value):RatS (w.setCell p u) g s d q :=
 ⟨⟨h.num.abs.setCell hg h1 u,h.num.neg⟩,h.den.setCell hg h1 u⟩
theorem RowS.setT{w:World}{r:RR}{p:PRow}(h:RowS w r p){a:Addr}{t:TypeId}{cs:Array Value}(hg:w.heap[a.block]? = some (.cells cs t (0,0)))(h1:184≠t)(b:49≠t)(u:Value):RowS (w.setCell a u) r p :=
 ⟨h.coef.setT hg h1 b u,h.kind,h.rhs.setT hg h1 u⟩
theorem RowsL.setT{w:World}{H:Nat}{v:Value}{l:List RR}{ps:List PRow}(h:RowsL w H v l ps){a:Addr}{t:TypeId}{cs:Array Value}(hg:w.heap[a.block]? = some (.cells cs t (0,0)))(h1:184≠t)(d:49≠t)(f:75≠t)(u:Value):RowsL (w.setCell a u) H v l ps :=
 ⟨h.len,fun k r p b c=>(h.each k r p b c).setT hg h1 d u,zc9 h.own fun k hk=>Below.heap_setCell w a u k (fun e=>za6 h.own hg f (by rw[hk,e]))⟩
theorem zij.blk(h:zij w w')(a:w.heap[b]? = some (.cells cs t (0,0)))(c:75≠t):w'.heap[b]? = some (.cells cs t (0,0)) :=
 (h b (Array.getElem?_eq_some_iff.1 a).1 fun d e=>by rw[a]at e;injection e with e;injection e with _ e2;exact c e2.symm).trans a
theorem RowsL.base'(h:RowsL w H v l ps)(b:a≤H):RowsL w a v l ps:=⟨h.len,h.each,zbu h.own b⟩
def zJI (ls:List LineV):List PRow:=ls.map zH6
theorem zKT{a:List LineV}{x:LineV}(h:a[k]? = some x):zJI (a.take (k+1))=zJI (a.take k)++[zH6 x]:=by
 unfold zJI;rw[List.take_add_one,h];simp
theorem zK7(a:List LineV):(zJI a).length=a.length:=by simp[zJI]
def From (N:Nat) (l:List RR):Prop:=∀(i:Nat) (ri:RR) (b:Nat),l[i]? = some ri→ri.c.ownBlock=some b→N≤b
theorem zLw(N:Nat):From N []:=fun i a b h=>by simp at h
theorem zKP{r:RR}(h:From N l)(hr:∀b,r.c.ownBlock=some b→N≤b):From N (l++[r]):=by
 intro i e b a d;rcases Nat.lt_trichotomy i l.length with h1 | h1 | h1
 ·rw[List.getElem?_append_left h1]at a;exact h i e b a d
 ·subst h1;rw[List.getElem?_append_right (Nat.le_refl _)]at a;simp at a;subst a;exact hr b d
 ·rw[List.getElem?_eq_none (by simp;omega)]at a;cases a
def zGF (w:World) (cost:List Rat) (rows:List PRow) (e:Ending) (w':World):Prop:=∃(C:OA) (nC cC:Nat) (R:OA) (nR cR:Nat) (l:List RR),e=.returned (.agg #[(C,nC,cC),(R,nR,cR)]) ∧
  VecS w' w.heap.size (C,nC,cC) cost∧RowsL w' w.heap.size (R,nR,cR) l rows∧Apart (C,nC,cC) l∧From w.heap.size l∧Below w.heap.size w w'
namespace Lw
theorem zMg(A:OA)(s cA:Nat)(L:OA)(d D:Nat)(cs:List (Int × Int))(j:List LineV)(w:World)(hf:zcs w A cs)(aG:zex w L j)(hn:s=cs.length)(hm:d=j.length)(c:s≤1048576)(aE:d≤1000) :
  Calls Tryz.prog 14 #[.agg #[(A,s,cA),(L,d,D)]] w (zGF w (frs cs) (zJI j)):=by
 have HN:=hid hn;have HM:=hid hm;have HB:=hid c;have aT:=hid aE;have bJ:d≤9223372036854775807:=by omega
 clear hn hm c aE;obtain⟨W,t⟩:∃W,((w.alloc (.cells #[(A,s,cA),(L,d,D)] 25)).alloc (.cells #[(),()] 31))=W:=⟨_,rfl⟩
 have M:=hid (show W.heap[w.heap.size]? = some (.cells #[(A,s,cA),(L,d,D)] 25 (0,0))by rw[←t];exact zak (zam (by simp)));have az:=hid (show W.heap[w.heap.size+1]? = some (.cells #[(),()] 31 (0,0))by rw[←t];exact zam (by simp));have G:=hid (show Below w.heap.size w W by rw[←t];exact(zae w _).alloc (by simp) _);have J:=hid (show w.heap.size+2≤W.heap.size by rw[←t];simp);have B:=hid (show zcs W A cs by rw[←t];exact((hf).alloc _).alloc _)
 have H:=hid (show zex W L j by rw[←t];exact((aG).alloc _).alloc _);obtain⟨bW,_,bX,bU⟩:=bc2 M.out;clear hf aG;go_enter Tryz.func14,Tryz.ntmps14;go_wp2_with fail
 clear t;with_reducible refine(make A s cA cs _ HN.out B.out HB.out).mono ?_
 rintro e w1 ⟨C,nC,cC,rfl,hv,c⟩;have bn:=hid (show(w1.alloc (.cells #[(C,nC,cC),()] 31)).heap[w.heap.size]? = some (.cells #[(A,s,cA),(L,d,D)] 25 (0,0))from zak (zad c M.out));have u:=hid (show VecS (w1.alloc (.cells #[(C,nC,cC),()] 31)) W.heap.size (C,nC,cC) (frs cs)from(hv).alloc _)
 have br:=hid (show(w1.alloc (.cells #[(C,nC,cC),()] 31)).heap[w1.heap.size]? = some (.cells #[(C,nC,cC),()] 31 (0,0))from zam (by simp));obtain⟨_,_,bV,bY⟩:=bc2 bn.out;obtain⟨_,_,bZ,_⟩:=bc2 br.out;have ay:=hid (show W.heap.size≤w1.heap.size from c.size);have aV:=hid c;clear hv c;go_wp2
 go_loopw [4] (fun i wr=>∃(k:Nat) (R:OA) (m:Nat) (l:List RR),i=.int .i64 k∧k≤d∧wr.heap[w1.heap.size]? = some (.cells #[(C,nC,cC),(R,k,m)] 31 (0,0))∧RowsL wr W.heap.size (R,k,m) l (zJI (j.take k))∧VecS wr W.heap.size (C,nC,cC) (frs cs)∧Apart (C,nC,cC) l∧From W.heap.size l∧Below W.heap.size W wr)
  (fun i _=>d-(intOf i).toNat)
 case atStart=>exact⟨0,none,0,[],rfl,Nat.zero_le _,zal _ _ _,RowsL.nil _ _,u.out,zLa _,zLw _,aV.out.alloc ay.out _⟩
 case round =>
  obtain⟨k,R,m,l,rfl,hk,U,P,T,hA,aC,f⟩:=hrel;have HA:=hid hA;have aw:=hid aC;clear hA aC;by_cases bc:k<d
  ·obtain⟨x,V⟩:∃x,j[k]? = some x:=⟨j[k]'(by rw[←HM.out];exact bc),List.getElem?_eq_getElem _⟩
   obtain⟨xc,n,F,E⟩:=x;obtain⟨aj,ah,ai,b,o,O,q0,rfl,af,X,Y,k2,k3⟩:=H.out.below f k _ V;simp only at aj ah ai af X Y k2 k3;have z:=hid (zad f M.out);have q:=hid (zad f az.out);have bm:=hid (B.out.below f);have bk:=hid (H.out.below f);have aX:=hid (show zcs wr O xc from af);have I:=hid (show RowsL wr W.heap.size (R,k,m) l (zJI (j.take k))from P);have u:=hid (show VecS wr W.heap.size (C,nC,cC) (frs cs)from T);have HW:=hid (Bel.mk f)
   have aN:=hid (G.out.trans ((f).mono G.out.size));obtain⟨al,_,am,_⟩:=bc2 z.out;obtain⟨ab,aa,an,_,ac,Z,ap,_⟩:=bf2 q.out;have ao:wr.cell? ⟨b,o+k*4,none⟩=some (O,xc.length,q0):=X;have aJ:=zaa ao;have aq:wr.cell? ⟨b,o+k*4+1,none⟩=some (.int .i64 n):=Y;have aK:=zaa aq;have ar:wr.cell? ⟨b,o+k*4+2,none⟩=some (.int .i64 F):=k2;have aL:=zaa ar;have au:wr.cell? ⟨b,o+k*4+3,none⟩=some (.int .i64 E):=k3;have aM:=zaa au;have N:=hid U;obtain⟨al,_,am,_⟩:=bc2 z.out
   obtain⟨bu,_,_,_,bv,_⟩:=bf2 N.out;have ao:=X;have aJ:=zaa ao;have aq:=Y;have aK:=zaa aq;have ar:=k2;have aL:=zaa ar;have au:=k3;have aM:=zaa au;have a6:=hid aj;have a4:=hid ah;have a5:=hid ai;have aY:=hid V;have aU:=hid (show b<W.heap.size from by obtain⟨_,_,_,b',o',C',bF,e,_,e2,_⟩:=H.out k _ V;injection e with e;injection e with e3;rw[←e3]at e2;exact zMD e2);clear f U P T V af X Y k2 k3 aj ah ai;have bH:(0:Int)≤(k:Int):=Int.natCast_nonneg _
   have bI:(k:Int)<(d:Int):=by omega
   have bK:=J.out;have bG:=aU.out;go_wp2_with fail
   have a0:=hid (show(zJI (j.take k)).length=k by rw[zK7,List.length_take,←HM.out];omega)
   refine za2 (S:=fun w'=>w'.cell? ⟨w.heap.size,0,none⟩=some (A,s,cA)∧w'.cell? ⟨w.heap.size,1,none⟩=some (.slice (some ⟨b,o,none⟩) d D)∧w'.cell? ⟨w1.heap.size,0,none⟩=some (C,nC,cC)∧w'.cell? ⟨w1.heap.size,1,none⟩=some (R,k,m)∧w'.cell? ⟨b,o+k*4,none⟩=some (O,xc.length,q0)∧w'.cell? ⟨b,o+k*4+1,none⟩=some (.int .i64 n)∧w'.cell? ⟨b,o+k*4+2,none⟩=some (.int .i64 F)∧w'.cell? ⟨b,o+k*4+3,none⟩=some (.int .i64 E)) 26 (h:=fun hHeld=>?_)
   refine zaw [0,1,2,3,4,5,6,7,9,10,11,12,13,14,15,16,17,18,19,20] ?_;repeat refine tkE (hS:=hHeld) (h:=?_)
   refine zao ?_;refine zaN 8 (h:=fun K g=>?_);go_simp
   (go_at_call 47;(with_reducible refine(make O xc.length q0 xc _ rfl aX.out.drew a6.out).mono ?_);rintro e u1 ⟨Q,nq,cq,rfl,hv,c⟩;have aO:=hid (zad c z.out);have aR:=hid (zad c N.out);have bl:=hid (I.out.drew.below c);have bg:=hid (u.out.drew.below c);have bD:=hid (HW.out.drew.below c);have HQ:=hid (show VecS u1 wr.heap.size (Q,nq,cq) (frs xc)from hv);obtain⟨b0,_,b1,_⟩:=bc2 aO.out;obtain⟨b4,_,_,_,b5,_⟩:=bf2 aR.out;have bt:=zab c aJ;have bx:=zab c aK;have bA:=zab c aL;have bz:=zab c aM;clear hv c)
   (try go_wp2_with fail)
   refine g.out _ _ kp fun hHeld=>?_
   clear g K;try simp only[Act.put,pu1,pu2,pu3,pu4,pu5,pu6]
   refine zaN 21 (h:=fun K g=>?_);go_simp
   (go_at_call 48;(with_reducible refine(one F E a4.out a5.out _).mono ?_);rintro e u2 ⟨g5,A5,m5,c5,D5,md5,cd5,rfl,hv,c⟩;have bo:=hid (zad c aO.out);have aP:=hid (zad c aR.out);have bh:=hid (bl.out.below c);have bi:=hid (bg.out.below c);have aQ:=hid (bD.out.below c);have bj:=hid (HQ.out.below c);have a2:=hid (hv);obtain⟨bp,_,bq,_⟩:=bc2 bo.out;obtain⟨b2,_,_,_,b3,_⟩:=bf2 aP.out;have bs:=zab c bt;have bw:=zab c bx;have bB:=zab c bA;have bC:=zab c bz;have bL:W.heap.size≤u2.heap.size:=aQ.out.b.size;clear hv c)
   (try go_wp2_with fail)
   refine g.out _ _ kp fun hHeld=>?_
   clear g K;try simp only[Act.put,pu1,pu2,pu3,pu4,pu5,pu6]
   refine zaw [22] ?_;repeat refine tkE (hS:=hHeld) (h:=?_)
   refine zao ?_;refine zaN 23 (h:=fun K g=>?_);go_simp;refine g.out _ _ kp fun hHeld=>?_
   clear g K;try simp only[Act.put,pu1,pu2,pu3,pu4,pu5,pu6]
   refine zaN 24 (h:=fun K g=>?_)
   ((refine zKn (by rfl) _ _ (by rfl) (by rfl) (bh.out.alloc _) (by rfl) (zal _ _ _) (p:=zH6 ⟨xc,n,(F,E)⟩) ⟨(bj.out.alloc _).base (Nat.zero_le _),rfl,a2.out.alloc _⟩ a0.out (by have:=aT.out;omega) (by simp;omega) ?_);intro R3 c3 w3 aD ag r;have aZ:=hid aD;have y:=hid (ag.blk (zak aP.out) (by decide));have p0:w3.cell? ⟨w1.heap.size,0,none⟩=some (C,nC,cC):=zac y.out 0;have p1:w3.cell? ⟨w1.heap.size,1,none⟩=some (R,k,m):=zac y.out 1;have bP:=zag y.out 1;have aW:=hid ((bi.out.alloc _).keepR ag);have a3:=hid ((aQ.out.alloc _).b.trans r);have s0:=zKh r (show w.heap.size<W.heap.size by omega) (cell_al (ob:=.cells #[(Q,nq,cq),.int .i64 n,g5,(A5,m5,c5),(D5,md5,cd5)] 75) bp);have s1:=zKh r (show w.heap.size<W.heap.size by omega) (cell_al (ob:=.cells #[(Q,nq,cq),.int .i64 n,g5,(A5,m5,c5),(D5,md5,cd5)] 75) bq);have s2:=zKh r (show b<W.heap.size by omega) (cell_al (ob:=.cells #[(Q,nq,cq),.int .i64 n,g5,(A5,m5,c5),(D5,md5,cd5)] 75) bs);have s3:=zKh r (show b<W.heap.size by omega) (cell_al (ob:=.cells #[(Q,nq,cq),.int .i64 n,g5,(A5,m5,c5),(D5,md5,cd5)] 75) bw);have s4:=zKh r (show b<W.heap.size by omega) (cell_al (ob:=.cells #[(Q,nq,cq),.int .i64 n,g5,(A5,m5,c5),(D5,md5,cd5)] 75) bB);have s5:=zKh r (show b<W.heap.size by omega) (cell_al (ob:=.cells #[(Q,nq,cq),.int .i64 n,g5,(A5,m5,c5),(D5,md5,cd5)] 75) bC);clear aD ag r)
   refine g.out _ _ kp fun hHeld=>?_
   clear g K;try simp only[Act.put,pu1,pu2,pu3,pu4,pu5,pu6]
   refine zaw [25] ?_;repeat refine tkE (hS:=hHeld) (h:=?_)
   refine zao ?_;refine zba (h:=fun K g=>?_);go_simp;refine g.out _ _ ?_;clear g K;try simp only[Act.put,pu1,pu2,pu3,pu4,pu5,pu6]
   refine za1 (h:=?_)
   all_goals
    go_wp2;go_roundw
    case rel=>exact⟨k+1,R3,c3,_,by go_num,by omega,zar _ y.out,by rw[zKT aY.out];exact aZ.out.setT y.out (by decide) (by decide) (by decide) _,aW.out.setT y.out (by decide) (by decide) _,zKz HA.out I.out.coefLt (fun b c=>(u.out.lt c).2) (fun b c=>(HQ.out.lt c).1),zKP aw.out (fun b c=>Nat.le_trans (HW.out.b.size) (HQ.out.lt c).1),Below.setCell a3.out (by show W.heap.size≤w1.heap.size;exact ay.out) _⟩
    case measure=>simp[intOf];omega
  ·obtain rfl:d=k:=by omega
   have z:=hid (zad f M.out);have q:=hid (zad f az.out);have bm:=hid (B.out.below f);have bk:=hid (H.out.below f);have I:=hid (show RowsL wr W.heap.size (R,d,m) l (zJI (j.take d))from P);have u:=hid (show VecS wr W.heap.size (C,nC,cC) (frs cs)from T);have aN:=hid (G.out.trans ((f).mono G.out.size));obtain⟨al,_,am,_⟩:=bc2 z.out;obtain⟨ab,aa,an,_,ac,Z,ap,_⟩:=bf2 q.out;have N:=hid U;obtain⟨bu,_,bv,_⟩:=bc2 N.out
   clear U P T f;have B:=hid (show zJI (j.take d)=zJI j by rw[HM.out,List.take_length]);go_wp2;refine bodyPost_ret (v:=.agg #[(C,nC,cC),(R,d,m)]) (by simp[results,Tryz.results14,go_sem,ab,aa,ac,Z]) rfl ?_;have h1:=I.out;rw[B.out]at h1;have h2:=(h1.base' (show w.heap.size≤W.heap.size by have:=J.out;omega)).setT (a:=⟨w.heap.size+1,0,none⟩) q.out (by decide) (by decide) (by decide) (C,nC,cC)
   have h3:=h2.setT (a:=⟨w.heap.size+1,1,none⟩) (zar _ q.out) (by decide) (by decide) (by decide) (R,d,m);have v2:=(u.out.base (show w.heap.size≤W.heap.size by have:=J.out;omega)).setT (p:=⟨w.heap.size+1,0,none⟩) q.out (by decide) (by decide) (C,nC,cC);have v3:=v2.setT (p:=⟨w.heap.size+1,1,none⟩) (zar _ q.out) (by decide) (by decide) (R,d,m)
   exact⟨_,_,_,_,_,_,l,rfl,v3,h3,HA.out,fun i ri b hi c=>Nat.le_trans (show w.heap.size≤W.heap.size by have:=J.out;omega) (aw.out i ri b hi c),bsc (bsc aN.out)⟩
end Lw
theorem znO(h:w.ownsRow H e size v n xs)(hN:∀b,v.ownBlock=some b→N≤b):w.ownsRow N e size v n xs:=by
 refine⟨h.1,?_⟩;rcases h.2 with h2 | ⟨g,cap,cur,hv,hg,r⟩
 ·exact .inl h2
 ·exact .inr ⟨g,cap,cur,hv,hN g (by rw[hv];rfl),r⟩
theorem VecS.raise(h:VecS w H v qs)(hN:∀b,v.ownBlock=some b→N≤b):VecS w N v qs:=by
 obtain⟨l,h1,a,c⟩:=h.row;exact⟨l,h1,a,znO c hN⟩
theorem zff.blk(h:zff w w')(a:w.heap[b]? = some (.cells cs t (0,0)))(c:49≠t):w'.heap[b]? = some (.cells cs t (0,0)) :=
 (h b (Array.getElem?_eq_some_iff.1 a).1 fun d e=>by rw[a]at e;injection e with e;injection e with _ e2;exact c e2.symm).trans a
def zei (l:List RR) (k:Nat) (c:Value):List RR:=l.modify k fun r=>{ r with c:=c }
theorem zib{c:Value}{i:Nat}{r:RR}(h:(zei l k c)[i]? = some r):∃a,l[i]? = some a∧((i=k∧r.c=c)∨(i≠k∧r.c=a.c)):=by
 unfold zei at h;rw[List.getElem?_modify]at h;cases e:l[i]? with
 | none=>rw[e]at h;simp at h
 | some a =>
  rw[e]at h;simp at h;refine⟨a,rfl,?_⟩;by_cases hk:k=i
  ·left;rw[if_pos hk]at h;subst h;exact⟨hk.symm,rfl⟩
  ·right;rw[if_neg hk]at h;subst h;exact⟨fun e=>hk e.symm,rfl⟩
theorem zsz{r:RR}(h:l[k]? = some r):zei l k r.c=l:=by
 unfold zei;apply List.ext_getElem?;intro i;rw[List.getElem?_modify];by_cases hk:k=i
 ·subst hk;rw[h];simp
 ·simp[hk]
structure RSt (w0 wz:World) (pb:Nat) (C:Value) (cost:List Rat) (R:Value) (l:List RR) (ps:List PRow) (k:Nat) (cv:Value) (qs:List Rat):Prop where
  res:wz.heap[w0.heap.size+1]? = some (.cells #[(),()] 31 (0,0))
  pbx:wz.heap[pb]? = some (.cells #[C,R] 31 (0,0))
  cost:VecS wz w0.heap.size C cost
  len:l.length=ps.length
  each:∀(i:Nat) (r:RR) (p:PRow),l[i]? = some r→ps[i]? = some p→(i≠k→VecS wz 0 r.c p.coef)∧r.k=p.kind∧RatS wz r.g r.s r.d p.rhs
  own:wz.ownsRow w0.heap.size 75 5 R ps.length (zcW l)
  cur:VecS wz w0.heap.size cv qs
  ap:Apart C (zei l k cv)
  fr:From w0.heap.size l
  bel:Below w0.heap.size w0 wz
namespace RSt
variable {w0 wz w':World} {pb:Nat} {C:Value} {cost:List Rat} {R:Value} {l:List RR} {ps:List PRow} {k:Nat} {cv:Value} {qs:List Rat}
theorem below(h:RSt w0 wz pb C cost R l ps k cv qs)(c:Below wz.heap.size wz w'):RSt w0 w' pb C cost R l ps k cv qs :=
  ⟨zad c h.res,zad c h.pbx,h.cost.below c,h.len,fun i r p a b=>⟨fun e=>((h.each i r p a b).1 e).below c,(h.each i r p a b).2.1,(h.each i r p a b).2.2.below c⟩,
   zc9 h.own fun k hk=>c.block k (h.own.lt k hk).2,h.cur.below c,h.ap,h.fr,h.bel.trans (c.mono h.bel.size)⟩
theorem alloc(h:RSt w0 wz pb C cost R l ps k cv qs)(o:Obj):RSt w0 (wz.alloc o) pb C cost R l ps k cv qs:=h.below (zae wz o)
theorem drew(h:RSt w0 wz pb C cost R l ps k cv qs):RSt w0 wz.drew pb C cost R l ps k cv qs:=h.below (zap wz 1)
theorem append(h:RSt w0 wz pb C cost R l ps k cv qs)(hk:k<l.length){o:Value}(t:VecS w' w0.heap.size o (qs++[q]))(hr:zff wz w')(hg:wz.grownBy w' cv.ownBlock)(hc:o.ownBlock=cv.ownBlock∨∃b,o.ownBlock=some b∧wz.heap.size≤b) :
  RSt w0 w' pb C cost R l ps k o (qs++[q]):=by
 obtain⟨S,N⟩:∃r,l[k]? = some r:=⟨l[k],List.getElem?_eq_getElem hk⟩
 have E:(zei l k cv)[k]? = some { S with c:=cv }:=by unfold zei;rw[List.getElem?_modify,N];simp
 have zDE:∀b,C.ownBlock=some b→w'.heap[b]? = wz.heap[b]?:=fun b d=>hg.block b (h.cost.lt d).2 fun e=>h.ap.2 k _ b E e.symm d
 have P:∀i r p,l[i]? = some r→ps[i]? = some p→i≠k→VecS w' 0 r.c p.coef:=by
  intro i r p h1 a D;have t:=(h.each i r p h1 a).1 D;refine t.keepAll (fun b d=>hg.block b (t.lt d).2 fun e=>?_) fun _ _ _ _ x=>x.keepT hr
  have O:(zei l k cv)[i]? = some r:=by unfold zei;rw[List.getElem?_modify,h1];simp;intro e;exact absurd e.symm D
  exact D (h.ap.1 i k r _ b O E d e.symm)
 refine⟨hr.blk h.res (by decide),hr.blk h.pbx (by decide),h.cost.keepAll zDE fun _ _ _ _ x=>x.keepT hr,h.len,fun i r p h1 a=>⟨P i r p h1 a,(h.each i r p h1 a).2.1,(h.each i r p h1 a).2.2.keepT hr⟩,?_,t,?_,h.fr,?_⟩
 ·refine zc9 h.own fun b d=>?_
  rcases h.own.2 with ⟨e,_⟩ | ⟨g,cap,cur,e,_,J,_⟩
  ·rw[e]at d;cases d
  ·rw[e]at d;injection d with d;subst d;exact(hr.blk J (by decide)).trans J.symm
 ·have K:∀(i:Nat) (r:RR) (b:Nat),(zei l k cv)[i]? = some r→r.c.ownBlock=some b→b<wz.heap.size:=by
   intro i r b h1 a;obtain⟨G,s,⟨rfl,f⟩ | ⟨f,A⟩⟩:=zib h1
   ·rw[f]at a;exact(h.cur.lt a).2
   ·obtain⟨p,M⟩:∃p,ps[i]? = some p:=⟨ps[i]'(by rw[←h.len];exact(List.getElem?_eq_some_iff.1 s).1),List.getElem?_eq_getElem _⟩
    rw[A]at a;exact(((h.each i G p s M).1 f).lt a).2
  have F:∀(i:Nat) (r:RR) (b:Nat),(zei l k o)[i]? = some r→r.c.ownBlock=some b→(∃r',(zei l k cv)[i]? = some r'∧r'.c.ownBlock=some b)∨(i=k∧wz.heap.size≤b):=by
   intro i r b h1 a;obtain⟨G,s,⟨rfl,f⟩ | ⟨f,A⟩⟩:=zib h1
   ·rw[f]at a;rcases hc with hc | ⟨b',hc,hb'⟩
    ·exact .inl ⟨_,E,by rw[←hc];exact a⟩
    ·rw[hc]at a;injection a with a;exact .inr ⟨rfl,by omega⟩
   ·exact .inl ⟨G,by unfold zei;rw[List.getElem?_modify,s];simp;intro e;exact absurd e.symm f,by rw[←A];exact a⟩
  refine⟨fun i j H Q b B hj z L=>?_,fun i H b B z I=>?_⟩
  ·rcases F i H b B z with ⟨u,m,n⟩ | ⟨m,n⟩<;>rcases F j Q b hj L with ⟨r2,v,y⟩ | ⟨v,y⟩
   ·exact h.ap.1 i j u r2 b m v n y
   ·have:=K i u b m n;omega
   ·have:=K j r2 b v y;omega
   ·omega
  ·rcases F i H b B z with ⟨u,m,n⟩ | ⟨m,n⟩
   ·exact h.ap.2 i u b m n I
   ·have:=(h.cost.lt I).2;omega
 ·exact h.bel.grown hg h.bel.size fun b d=>(h.cur.lt d).1
end RSt
structure ROut (w0 w:World) (pb:Nat) (C:Value) (cost:List Rat) (R:Value) (l:List RR) (ps:List PRow):Prop where
  res:w.heap[w0.heap.size+1]? = some (.cells #[(),()] 31 (0,0))
  pbx:w.heap[pb]? = some (.cells #[C,R] 31 (0,0))
  cost:VecS w w0.heap.size C cost
  rows:RowsL w w0.heap.size R l ps
  ap:Apart C l
  fr:From w0.heap.size l
  bel:Below w0.heap.size w0 w
theorem ROut.below{w0 w w':World}{pb:Nat}{C:Value}{cost:List Rat}{R:Value}{l:List RR}{ps:List PRow}(h:ROut w0 w pb C cost R l ps)(a:Below w.heap.size w w'):ROut w0 w' pb C cost R l ps :=
 ⟨zad a h.res,zad a h.pbx,h.cost.below a,h.rows.below a,h.ap,h.fr,h.bel.trans (a.mono h.bel.size)⟩
theorem ROut.drew{w0 w:World}{pb:Nat}{C:Value}{cost:List Rat}{R:Value}{l:List RR}{ps:List PRow}(h:ROut w0 w pb C cost R l ps):ROut w0 w.drew pb C cost R l ps:=h.below (zap w 1)
theorem RSt.start{R:Value}(h:ROut w0 wz pb C cost R l ps){r:RR}{p:PRow}(hr:l[k]? = some r)(e:ps[k]? = some p):RSt w0 wz pb C cost R l ps k r.c p.coef :=
 ⟨h.res,h.pbx,h.cost,h.rows.len,fun i r p h1 a=>⟨fun _=>(h.rows.each i r p h1 a).coef,(h.rows.each i r p h1 a).kind,(h.rows.each i r p h1 a).rhs⟩,h.rows.own,(h.rows.each k r p hr e).coef.raise fun b d=>h.fr k r b hr d,by rw[zsz hr];exact h.ap,h.fr,h.bel⟩
theorem zxs(h:w.ownsRow H e size (A,n,cap) n xs)(i:Nat)(f:i≤n) :
  w.ownsRow H e size (A,i,cap) i (xs.take (i*size)):=by
 have g:i*size≤n*size:=Nat.mul_le_mul_right _ f;refine⟨by rw[List.length_take,h.1];omega,?_⟩;rcases h.2 with ⟨a,o⟩ | ⟨g',m,cur,a,b,hg,p,c,d,j⟩
 ·injection a with e1 e2 e3;subst e1 e2 e3;obtain rfl:i=0:=by omega
  exact .inl ⟨rfl,rfl⟩
 ·injection a with e1 e2 e3;subst e1 e3;exact .inr ⟨g',cap,cur,rfl,b,hg,by omega,c,d,by rw[←j,List.take_take,Nat.min_eq_left g]⟩
theorem zqu(l:List RV):∀k,(rcells l).take (k*3)=rcells (l.take k):=by
 induction l with
 | nil=>intro k;simp[rcells]
 | cons a l ih =>
  intro k;cases k with
  | zero=>simp[rcells]
  | succ k=>rw[show(k+1)*3=k*3+1+1+1 by omega,zcy];simp[zcy,ih]
theorem VecS.cut(h:VecS w H (A,n,cap) qs)(i:Nat)(d:i≤n):VecS w H (A,i,cap) (qs.take i):=by
 have g:=h.len;subst g;obtain⟨l,h1,e,f⟩:=h.row;refine⟨l.take i,by simp[h1],fun k r q a b=>?_,?_⟩
 ·rw[List.getElem?_take]at a b;split at a
  ·rw[if_pos ‹_›]at b;exact e k r q a b
  ·cases a
 ·have c:=zxs f i d;rw[zqu]at c;rw[List.length_take,Nat.min_eq_left d];exact c
theorem zA4(h:w.ownsRow H e size (b,n,cap) n xs):∃cur,w.heap[b]? = some (.cells cur e (0,0))∧H≤b:=by
 rcases h.2 with ⟨a,i⟩ | ⟨g',d,cur,a,c,hg,j,f,g,m⟩
 ·cases a
 ·injection a with e1;injection e1 with e1;injection e1 with e1;subst e1;exact⟨cur,hg,c⟩
theorem zq7{f:Array Value}{d:TypeId}(u:Value)(h:w.heap[b]? = some (.cells cs t (0,0)))(a:w.heap[c]? = some (.cells f d (0,0)))(g:t≠d):(w.setCell ⟨b,o,none⟩ u).heap[c]? = some (.cells f d (0,0)):=by
 refine(Below.heap_setCell w ⟨b,o,none⟩ u c fun e=>?_).trans a;have e:c=b:=e;subst e;rw[h]at a;injection a with a;injection a with _ e2;exact g e2
theorem RSt.put{q:Nat}(h:RSt w0 wz pb C cost (q,nR,H) l ps k (A,n,c) qs)(M:nR=ps.length)(nc:Nat)(N:nc≤n) :
  ROut w0 (wz.setCell ⟨q,k*5,none⟩ (A,nc,c)) pb C cost (q,nR,H) (zei l k (A,nc,c)) (ps.modify k fun p=>{ p with coef:=qs.take nc }):=by
 subst M;obtain⟨cur,hg,L⟩:=zA4 h.own;have hcut:=h.cur.cut nc N;have F:∀(i:Nat) (r:RR) (b:Nat),(zei l k (A,nc,c))[i]? = some r→r.c.ownBlock=some b→∃r',(zei l k (A,n,c))[i]? = some r'∧r'.c.ownBlock=some b:=by
  intro i r b h1 f;obtain⟨o,v,⟨rfl,m⟩ | ⟨m,x⟩⟩:=zib h1
  ·exact⟨{ o with c:=.slice A n c },by unfold zei;rw[List.getElem?_modify,v];simp,by rw[m]at f;cases A with
    | none=>cases f
    | some a=>exact f⟩
  ·exact⟨o,by unfold zei;rw[List.getElem?_modify,v];simp;intro e;exact absurd e.symm m,by rw[←x];exact f⟩
 refine⟨zq7 _ hg h.res (by decide),zq7 _ hg h.pbx (by decide),h.cost.setT (p:=⟨q,k*5,none⟩) hg (by decide) (by decide) _,⟨by simp[zei,h.len],?_,?_⟩,⟨fun i j B P b z hj t K=>?_,fun i B b z t=>?_⟩,fun i B b z t=>?_,h.bel.setCell L _⟩
 ·intro i r p h1 f;obtain⟨o,v,O⟩:=zib h1;have u:r.k=o.k∧r.g=o.g∧r.s=o.s∧r.d=o.d:=by
   unfold zei at h1;rw[List.getElem?_modify,v]at h1;simp at h1;split at h1<;>(subst h1;exact⟨rfl,rfl,rfl,rfl⟩)
  rw[List.getElem?_modify]at f;cases e:ps[i]? with
  | none=>rw[e]at f;simp at f
  | some p0 =>
   rw[e]at f;simp at f;have y:=h.each i o p0 v e;rcases O with ⟨rfl,m⟩ | ⟨m,x⟩
   ·rw[if_pos rfl]at f;subst f;refine⟨by rw[m];exact((hcut.base (Nat.zero_le _)).setT (p:=⟨q,i*5,none⟩) hg (by decide) (by decide) _),by rw[u.1];exact y.2.1,by rw[u.2.1,u.2.2.1,u.2.2.2];exact y.2.2.setT (p:=⟨q,i*5,none⟩) hg (by decide) _⟩
   ·rw[if_neg (fun e=>m e.symm)]at f;subst f;refine⟨by rw[x];exact((y.1 m).setT (p:=⟨q,k*5,none⟩) hg (by decide) (by decide) _),by rw[u.1];exact y.2.1,by rw[u.2.1,u.2.2.1,u.2.2.2];exact y.2.2.setT (p:=⟨q,k*5,none⟩) hg (by decide) _⟩
 ·rw[List.length_modify,zei,←zpb];exact(h.own.stored _ _).1
 ·obtain⟨G,D,E⟩:=F i B b z t;obtain⟨r2,I,J⟩:=F j P b hj K;exact h.ap.1 i j G r2 b D I E J
 ·obtain⟨G,D,E⟩:=F i B b z t;exact h.ap.2 i G b D E
 ·obtain⟨o,v,⟨rfl,m⟩ | ⟨m,x⟩⟩:=zib z
  ·rw[m]at t;exact(hcut.lt t).1
  ·rw[x]at t;exact h.fr i o b v t
theorem ROut.putK{q D:Nat}(h:ROut w0 w pb C cost (q,nR,D) l ps)(N:nR=ps.length)(k:Nat)(z:Int) :
  ROut w0 (w.setCell ⟨q,k*5+1,none⟩ (.int .i64 z)) pb C cost (q,nR,D) (l.modify k fun r=>{ r with k:=z }) (ps.modify k fun p=>{ p with kind:=z }):=by
 subst N;obtain⟨cur,hg,M⟩:=zA4 h.rows.own;have x:∀(i:Nat) (r:RR),(l.modify k fun r=>{ r with k:=z })[i]? = some r→∃f,l[i]? = some f∧r.c=f.c∧r.g=f.g∧r.s=f.s∧r.d=f.d∧(if k=i then r.k=z else r.k=f.k):=by
  intro i r h1;rw[List.getElem?_modify]at h1;cases e:l[i]? with
  | none=>rw[e]at h1;simp at h1
  | some f =>
   rw[e]at h1;simp at h1;refine⟨f,rfl,?_⟩;split at h1<;>(subst h1;simp[*])
 refine⟨zq7 _ hg h.res (by decide),zq7 _ hg h.pbx (by decide),h.cost.setT (p:=⟨q,k*5+1,none⟩) hg (by decide) (by decide) _,⟨by simp[h.rows.len],?_,?_⟩,⟨fun i j A O b v hj t K=>?_,fun i A b v t=>?_⟩,fun i A b v t=>?_,h.bel.setCell M _⟩
 ·intro i r p h1 m;obtain⟨f,L,E,F,G,H,B⟩:=x i r h1;rw[List.getElem?_modify]at m;cases e:ps[i]? with
  | none=>rw[e]at m;simp at m
  | some p0 =>
   rw[e]at m;simp at m;have u:=(h.rows.each i f p0 L e).setT (a:=⟨q,k*5+1,none⟩) hg (by decide) (by decide) (.int .i64 z);by_cases hk:k=i
   ·rw[if_pos hk]at m B;subst m;exact⟨by rw[E];exact u.coef,B,by rw[F,G,H];exact u.rhs⟩
   ·rw[if_neg hk]at m B;subst m;exact⟨by rw[E];exact u.coef,by rw[B];exact u.kind,by rw[F,G,H];exact u.rhs⟩
 ·rw[List.length_modify,←zKM];exact(h.rows.own.stored _ _).1
 ·obtain⟨y,n,o,_⟩:=x i A v;obtain⟨r2,I,J,_⟩:=x j O hj;exact h.ap.1 i j y r2 b n I (by rw[←o];exact t) (by rw[←J];exact K)
 ·obtain⟨y,n,o,_⟩:=x i A v;exact h.ap.2 i y b n (by rw[←o];exact t)
 ·obtain⟨y,n,o,_⟩:=x i A v;exact h.fr i y b n (by rw[←o];exact t)
theorem zSO{ops:Array Oper}{rest:List Oper}{o:Oper}{a:Act}{Q:Exit→Act→World→Prop}(X:o.guard=none)(s x:Operand)
  (O:o.op=.call { callee:=.builtin .append,args:=#[s,x],argTypes:=#[28,28] }) {V:Nat}  {ps:List Rat} (S:a.eval s=v) (t:VecS w H v ps)   (T:a.eval x=(A,n,c)) (d:VecS w V (A,n,c) qs)
   (hN:ps.length+n=N) (an:N≤1000000) (G:H≤w.heap.size)
  (I:∀b c' w',VecS w' H (.slice b N c') (ps++qs)→TKeep 49 w w'→Below H w w'→wpList Tryz.prog ops Q rest (a.put o.dst (.slice b N c')) w'):wpList Tryz.prog ops Q (o::rest) a w:=by
 subst hN;obtain⟨U,L,af,ag,ah⟩:=info_parts ze0;obtain⟨l,h1,z,f⟩:=t.row;obtain rfl:=d.len;refine wpList_plain X fun K J=>?_
 rcases d.form.2.2.2 with ⟨rfl,rfl,rfl⟩ | ⟨g,rfl,al,am⟩
 ·have ae:=run_append_owned_none (P:=Tryz.prog) (w:=w) H 28 o.type 49 U 3 Tryz.underlying28 L v ps.length (rcells l) f;obtain⟨b,n',c',rfl⟩:=t.slice;obtain rfl:=t.len;unfold Oper.wp;simp[execOp,O,resolve,invoke,builtin,S,T,ae,Result.andThen];refine J _ _ ?_;have:=I b c' w (by rw[List.append_nil];exact t) (fun _ _ _=>rfl) (Below.refl _ _);exact this
 ·obtain⟨i,y,F,W⟩:=d.row;have ab:∀u∈rcells i,u.oneCell'=true:=ziJ i fun r hr=>by
   obtain⟨k,hk,aa⟩:=List.getElem_of_mem hr;have Y:i[k]? = some r:=by rw[List.getElem?_eq_getElem hk,aa]
   obtain⟨q,hq⟩:∃q,qs[k]? = some q:=⟨qs[k]'(by omega),List.getElem?_eq_getElem _⟩
   obtain⟨A,m,c,D,md,cd,h1,z⟩:=(F k r q Y hq).shape;rw[h1,z];exact⟨rfl,rfl⟩
  refine wp_append_own w s x 28 O H 49 U _ 3 56 Tryz.underlying28 L af ag ah rfl (by decide) v ps.length (rcells l) S f ⟨g,0,none⟩ qs.length c (rcells i) T (by rw[zcC,y])
   (fun j u d=>by
    have hj:=(List.getElem?_eq_some_iff.1 d).1;rw[zcC,y]at hj;show w.cell? (Addr.add _ _)=_
    rw[show(⟨g,0,none⟩:Addr).add j=⟨g,j,none⟩by unfold Addr.add;split<;>simp_all];rw[W.cellAt j hj];exact d) ab (by unfold maxLen;omega) (by omega) G ?_
  intro v' w' ac E _;have hk:=zh3 f E;have B:VecS w' H v' (ps++qs):=by
   refine⟨l++i,by simp[h1,y],fun k r q e p=>?_,by rw[List.length_append,zh4];exact ac⟩;by_cases Z:k<l.length
   ·rw[List.getElem?_append_left Z]at e;rw[List.getElem?_append_left (by omega)]at p;exact(z k r q e p).keepT hk
   ·rw[List.getElem?_append_right (by omega)]at e;rw[List.getElem?_append_right (by omega)]at p;rw[h1]at e;exact(F _ r q e p).keepT hk
  obtain⟨b,n',c',rfl⟩:=B.slice;have M:=B.len;rw[List.length_append]at M;subst M;exact J _ _ (I b c' w' B (TKeep.grown f E) ((Below.refl _ _).grown E G (fun k hk=>(f.lt k hk).1)))
def zPA (n:Nat) (ys:List Rat) (rows:List PRow):Nat→List Rat
  | 0=>List.replicate n 0
  | k+1=>zly (zPA n ys rows k) (el ys k) (rows.getD k default).coef
def sv (n:Nat) (ys:List Rat) (rows:List PRow):List Rat:=zPA n ys rows rows.length
def zPV (ys:List Rat) (rows:List PRow) (k:Nat):Rat:=zai k fun i=>el ys i*(rows.getD i default).rhs
def sb (ys:List Rat) (rows:List PRow):Rat:=zPV ys rows rows.length
theorem zPw{n:Nat}{ys:List Rat}{rows:List PRow}(h:Rows n rows):∀k,k≤rows.length→(zPA n ys rows k).length=n
 | 0,_=>by simp[zPA]
 | k+1,hk=>by
  have b:=zPw (ys:=ys) h k (by omega);obtain⟨p,a⟩:∃p,rows[k]? = some p:=⟨rows[k]'(by omega),List.getElem?_eq_getElem _⟩
  have hc:=(h p (List.mem_of_getElem? a)).1;show(zly _ _ _).length=n
  rw[zfC a,zdt (by omega),b]
theorem zQr{xs ys:List Rat}{r:Rat}(h:q∈zly xs r ys):∃a∈xs,∃b∈ys,q=a+r*b:=by
 obtain⟨k,hk⟩:=List.mem_iff_getElem?.1 h;unfold zly at hk;rw[List.getElem?_zipWith]at hk;cases ha:xs[k]? with
 | none=>rw[ha]at hk;simp at hk
 | some a =>
  cases hb:ys[k]? with
  | none=>rw[ha,hb]at hk;simp at hk
  | some b=>rw[ha,hb]at hk;simp at hk;exact⟨a,List.mem_of_getElem? ha,b,List.mem_of_getElem? hb,hk.symm⟩
theorem VecS.set3(h:VecS w H v qs)(a:w.heap[b]? = some (.cells cs t (0,0)))(d:184≠t)(f:b<H)(i j k:Nat)(u x y:Value) :
  VecS (((w.setCell ⟨b,i,none⟩ u).setCell ⟨b,j,none⟩ x).setCell ⟨b,k,none⟩ y) H v qs:=by
 have c:v.ownBlock≠some b:=fun e=>by have:=(h.lt e).1;omega
 exact((h.setCell (p:=⟨b,i,none⟩) c a d u).setCell (p:=⟨b,j,none⟩) c (zar u a) d x).setCell (p:=⟨b,k,none⟩) c (zar x (zar u a)) d y
theorem zPF{n:Nat}{ys:List Rat}{rows:List PRow}(h:Rows n rows){j:Nat}(hj:j<n):∀k,k≤rows.length→el (zPA n ys rows k) j=zai k fun i=>el ys i*el (rows.getD i default).coef j
 | 0,_=>by
  show el (List.replicate n 0) j=0
  unfold el;rw[List.getD_eq_getElem?_getD,List.getElem?_replicate];split<;>rfl
 | k+1,hk=>by
  have h1:=zPw (ys:=ys) h k (by omega);have hc:=(h _ (List.mem_of_getElem? (zaO (d:=default) (show k<rows.length by omega)))).1;show el (zly _ _ _) j=_
  rw[zuD _ (by rw[h1,hc]) (by rw[h1];exact hj),zPF h hj k (by omega),zai]
theorem zH7{p d:Int}(a:I64 p)(c:I64 d):mw (fr p d)≤1:=by
 unfold fr;split
 ·exact zu9 p a
 ·have h:=zhX p d ‹_›;have h1:=zdl (n:=p.natAbs) (by unfold B64;omega);have b:=zdl (n:=d.natAbs) (by unfold B64;omega);omega
theorem zyq{ps:List (Int × Int)}(h:zcs w A ps):∀q∈frs ps,mw q≤1:=by
 intro q b;obtain⟨x,c,rfl⟩:=List.mem_map.1 b;obtain⟨k,hk⟩:=List.mem_iff_getElem?.1 c;obtain⟨h1,a,_⟩:=h k x hk;exact zH7 h1 a
theorem zcs.take{w:World}{A:OA}{ps:List (Int × Int)}(h:zcs w A ps)(n:Nat):zcs w A (ps.take n):=by
 intro k x a;rw[List.getElem?_take]at a;split at a
 ·exact h k x a
 ·cases a
theorem zex.take{w:World}{A:OA}{b:List LineV}(h:zex w A b)(n:Nat):zex w A (b.take n):=by
 intro k x a;rw[List.getElem?_take]at a;split at a
 ·exact h k x a
 ·cases a
theorem zcs.below'{ps:List (Int × Int)}(h:zcs w A ps)(a:Below w.heap.size w w'):zcs w' A ps:=h.below a
theorem zex.below'{a:List LineV}(h:zex w A a)(b:Below w.heap.size w w'):zex w' A a:=h.below b
theorem zKA{x:Obj}(u:Value)(c:a≠b)(h:w.heap[a]? = some x):(w.setCell ⟨b,o,none⟩ u).heap[a]? = some x:=(Below.heap_setCell w ⟨b,o,none⟩ u a c).trans h
abbrev S1 (xs:List Rat):Prop:=∀q∈xs,mw q≤1
structure Good1 (nc nr:Nat) (cost:List Rat) (rows:List PRow):Prop where
  hc:nc≤5
  hr:nr≤4
  sc:S1 cost
  rw_:∀p∈rows,p.coef.length=nc∧S1 p.coef∧mw p.rhs≤1
  kd:Kinds rows
def PR (nC k:Nat) (ps:List PRow):Prop:=∀(i:Nat) (p:PRow),ps[i]? = some p→S1 p.coef∧mw p.rhs≤1∧(i<k→p.coef.length=nC∧1≤p.kind∧p.kind≤3)
theorem zLC{c:List LineV}(h:zex w A c)(nC:Nat):PR nC 0 (zJI c):=by
 intro i p a;unfold zJI at a;rw[List.getElem?_map]at a;cases e:c[i]? with
 | none=>rw[e]at a;simp at a
 | some x =>
  rw[e]at a;simp at a;subst a;obtain⟨_,h1,d,b,o,C,cc,_,f,_⟩:=h i x e;exact⟨zyq f,zH7 h1 d,fun h=>by omega⟩
theorem zLZ{nC:Nat}(h:PR nC k ps)(d:S1 qs)(g:nC≤qs.length){z:Int}(b:1≤z∧z≤3):PR nC (k+1) ((ps.modify k fun p=>{ p with coef:=qs.take nC }).modify k fun p=>{ p with kind:=z }):=by
 intro i p a;rw[List.getElem?_modify,List.getElem?_modify]at a;cases e:ps[i]? with
 | none=>rw[e]at a;simp at a
 | some p0 =>
  rw[e]at a;have h0:=h i p0 e;by_cases hk:k=i
  ·subst hk;simp at a;subst a;exact⟨fun q c=>d q (List.mem_of_mem_take c),h0.2.1,fun _=>⟨by rw[List.length_take];omega,b.1,b.2⟩⟩
  ·simp[hk]at a;subst a;exact⟨h0.1,h0.2.1,fun f=>h0.2.2 (by omega)⟩
theorem zLX(x:Int):1≤wrap64 (IntKind.u64.wrap (1+(IntKind.u64.wrap x).tmod 3))∧wrap64 (IntKind.u64.wrap (1+(IntKind.u64.wrap x).tmod 3))≤3:=by
 have h0:0≤IntKind.u64.wrap x:=by unfold IntKind.wrap IntKind.signed IntKind.bits;simp;omega
 generalize IntKind.u64.wrap x=y at *
 have h1:0≤y.tmod 3∧y.tmod 3<3:=by rw[Int.tmod_eq_emod_of_nonneg h0];omega
 generalize y.tmod 3=m at *
 have a:IntKind.u64.wrap (1+m)=1+m:=by unfold IntKind.wrap IntKind.signed IntKind.bits;simp;omega
 rw[a];unfold wrap64;omega
theorem RowsS.setT{w:World}{H:Nat}{v:Value}{ps:List PRow}(h:RowsS w H v ps){a:Addr}{t:TypeId}{cs:Array Value}(hg:w.heap[a.block]? = some (.cells cs t (0,0)))(h1:184≠t)(e:49≠t)(f:75≠t)(u:Value):RowsS (w.setCell a u) H v ps:=by
 obtain⟨l,b,c,d⟩:=h.row;exact(RowsL.setT (l:=l) ⟨b,c,d⟩ hg h1 e f u).toS
def zKx:Value→Nat
  | .slice _ n _=>n
  | _=>0
def zLo (w:World) (e:Ending) (w':World):Prop:=∃(C:OA) (nC cC:Nat) (R:OA) (nR cR:Nat) (l:List RR) (cost:List Rat) (rows:List PRow),e=.returned (.agg #[(C,nC,cC),(R,nR,cR)]) ∧
  VecS w' w.heap.size (C,nC,cC) cost∧RowsL w' w.heap.size (R,nR,cR) l rows∧Apart (C,nC,cC) l∧From w.heap.size l∧Good1 nC nR cost rows∧Below w.heap.size w w'
namespace Lw
theorem zLD(A:OA)(s cA:Nat)(L:OA)(m t:Nat)(cs:List (Int × Int))(Y:List LineV)(w:World)(hf:zcs w A cs)(aF:zex w L Y)(hn:s=cs.length)(hm:m=Y.length)(j:s≤cA)(aA:m≤t)(hc:cA≤9223372036854775807)(bj:t≤9223372036854775807) :
  Calls Tryz.prog 13 #[.agg #[(A,s,cA),(L,m,t)]] w (zLo w):=by
 have I:=hid hn;have HM:=hid hm;have HF:=hid hf;have HL:=hid aF;clear hn hm hf aF;obtain⟨W,U⟩:∃W,((w.alloc (.cells #[(A,s,cA),(L,m,t)] 25)).alloc (.cells #[(),()] 31))=W:=⟨_,rfl⟩
 have ae:=hid (show W.heap[w.heap.size]? = some (.cells #[(A,s,cA),(L,m,t)] 25 (0,0))by rw[←U];exact zak (zam (by simp)));have ax:=hid (show W.heap[w.heap.size+1]? = some (.cells #[(),()] 31 (0,0))by rw[←U];exact zam (by simp));have BB:=hid (show Below w.heap.size w W by rw[←U];exact(zae w _).alloc (by simp) _);obtain⟨bE,_,bI,_⟩:=bf2 ae.out;obtain⟨z,aJ⟩:∃z,z=min s 5:=⟨_,rfl⟩
 have E:=hid aJ;clear aJ;obtain⟨G,aI⟩:∃G,G=min m 4:=⟨_,rfl⟩
 have D:=hid aI;clear aI;go_enter Tryz.func13,Tryz.ntmps13;go_upto_if 9 with fail
 clear U;go_cut[] (fun wr=>wr.heap[w.heap.size]? = some (.cells #[.slice A z cA,(L,m,t)] 25 (0,0))∧wr.heap[w.heap.size+1]? = some (.cells #[(),()] 31 (0,0))∧Below w.heap.size w wr)
 case first =>
  by_cases h9:5<s
  ·have ag:(5:Int)<(s:Int):=by omega
   obtain rfl:z=5:=by have:=E.out;have:=D.out;omega
   go_wp2;go_meet
   case rel=>exact⟨zar _ ae.out,zKA _ (by omega) ax.out,Below.setCell BB.out (by show w.heap.size≤w.heap.size;omega) _⟩
  ·have ag:¬((5:Int)<(s:Int)):=by omega
   have ai:z=s:=by have:=E.out;have:=D.out;omega
   clear j aA;go_wp2;go_meet
   case rel=>exact⟨by rw[ai];exact ae.out,ax.out,BB.out⟩
 case rest =>
  obtain⟨N,O,K⟩:=hcut;rename World=>wa
  have ad:=hid N;have av:=hid O;have aw:=hid K;clear N O K;obtain⟨_,_,_,_,bD,_,bH,_⟩:=bf2 ad.out;go_upto_if 17 with fail
  go_cut[] (fun wr=>wr.heap[w.heap.size]? = some (.cells #[.slice A z cA,.slice L G t] 25 (0,0))∧wr.heap[w.heap.size+1]? = some (.cells #[(),()] 31 (0,0))∧Below w.heap.size w wr)
  case first =>
   by_cases h9:4<m
   ·have ag:(4:Int)<(m:Int):=by omega
    obtain rfl:G=4:=by have:=E.out;have:=D.out;omega
    go_wp2;go_meet
    case rel=>exact⟨zar _ ad.out,zKA _ (by omega) av.out,Below.setCell aw.out (by show w.heap.size≤w.heap.size;omega) _⟩
   ·have ag:¬((4:Int)<(m:Int)):=by omega
    have ai:G=m:=by have:=E.out;have:=D.out;omega
    clear j aA;go_wp2;go_meet
    case rel=>exact⟨by rw[ai];exact ad.out,av.out,aw.out⟩
  case rest =>
   obtain⟨N,O,K⟩:=hcut;rename World=>wb
   have a2:=hid N;have a3:=hid O;have S:=hid K;clear N O K;obtain⟨bF,_,_,_,bG,_⟩:=bf2 a2.out;go_wp2_with fail
   with_reducible refine(zMg A z cA L G t (cs.take 5) (Y.take 4) _ ((HF.out.below' S.out).take 5) ((HL.out.below' S.out).take 4) (by rw[List.length_take,←I.out,E.out];omega) (by rw[List.length_take,←HM.out,D.out];omega) (by rw[E.out];omega) (by rw[D.out];omega)).mono ?_
   rintro e w1 ⟨C,nC,cC,R,nR,cR,l,rfl,hv,hl,ha,hfm,j⟩;have bg:=hid (zad j a3.out);have J:=hid (show w.heap.size≤wb.heap.size from S.out.size);have a0:=hid (show wb.heap.size≤w1.heap.size from j.size);obtain⟨cost,ah⟩:∃cost,frs (cs.take 5)=cost:=⟨_,rfl⟩
   obtain⟨H,V⟩:∃H,zJI (Y.take 4)=H:=⟨_,rfl⟩
   have aV:=hid (show PR nC 0 H by rw[←V];exact zLC (HL.out.take 4) nC);have aR:=hid (show S1 cost by rw[←ah];exact zyq (HF.out.take 5));have Z:=hid (show nC≤5 by rw[hv.len];simp[frs];omega);have aa:=hid (show nR≤4∧H.length=nR by rw[hl.toS.len,←V];simp[zJI];omega);rw[ah]at hv;rw[V]at hl
   have d:=hid (show ROut w (w1.alloc (.cells #[(C,nC,cC),(R,nR,cR)] 31)) w1.heap.size (C,nC,cC) cost (R,nR,cR) l H from⟨zak bg.out,zal _ _ _,(hv.base J.out).alloc _,(hl.base' J.out).alloc _,ha,fun i ri b x j=>Nat.le_trans J.out (hfm i ri b x j),(S.out.trans (j.mono J.out)).alloc (Nat.le_trans J.out a0.out) _⟩);clear hv hl ha hfm j ah V;go_wp2
   go_loopw [4] (fun i wr=>∃(k:Nat) (l:List RR) (ps:List PRow),i=.int .i64 k∧k≤nR∧ps.length=nR∧ROut w wr w1.heap.size (C,nC,cC) cost (R,nR,cR) l ps∧PR nC k ps)
    (fun i _=>nR-(intOf i).toNat)
   case atStart=>exact⟨0,l,H,rfl,Nat.zero_le _,aa.out.2,d.out,aV.out⟩
   case round =>
    obtain⟨k,l,ps,rfl,hk,aM,o,hP⟩:=hrel;have d:=hid o;have P:=hid hP;have n:=hid aM;clear hP aM;have p0:=zac o.pbx 0;have p1:=zac o.pbx 1;simp only[List.getElem?_toArray,List.getElem?_cons_zero,List.getElem?_cons_succ]at p0 p1;have bs:nR≤9223372036854775807:=by have:=aa.out.1;omega
    have br:nC≤9223372036854775807:=by have:=Z.out;omega
    by_cases aG:k<nR
    ·obtain⟨p,u⟩:∃p,ps[k]? = some p:=⟨ps[k]'(by rw[n.out];exact aG),List.getElem?_eq_getElem _⟩
     obtain⟨f,rfl,bh,bi⟩:=d.out.rows.toS.has (by omega);obtain⟨r,hr⟩:∃r,l[k]? = some r:=⟨l[k]'(by rw[d.out.rows.len,n.out];exact aG),List.getElem?_eq_getElem _⟩
     obtain⟨Q,nq,cq,aj⟩:=(d.out.rows.each k r p hr u).coef.slice;have q0:wr.cell? ⟨f,k*5,none⟩=some (Q,nq,cq):=by have ho:=d.out.rows.own;have e:=n.out;rw[←aj];rw[e]at ho;rw[ho.cellAt (k*5) (by omega)];exact(zqG l k r hr).1
     have HS:=hid (show RSt w wr w1.heap.size (C,nC,cC) cost (f,nR,cR) l ps k (Q,nq,cq) p.coef by rw[←aj];exact RSt.start d.out hr u);have aZ:=hid (P.out k p u).1;have aS:=hid (show k<l.length from(List.getElem?_eq_some_iff.1 hr).1);have ar:=hid hr;have bo:(0:Int)≤(k:Int):=Int.natCast_nonneg _;have bp:(k:Int)<(nR:Int):=by omega
     clear o u hr aj;go_wp2
     go_loopw [5] (fun cv wz=>∃(B:OA) (y c':Nat) (qs:List Rat),cv=(B,y,c')∧RSt w wz w1.heap.size (C,nC,cC) cost (f,nR,cR) l ps k (B,y,c') qs∧S1 qs)
      (fun cv _=>nC-zKx cv)
     case atStart=>exact⟨Q,nq,cq,_,rfl,HS.out,aZ.out⟩
     case round =>
      rename World=>wz
      obtain⟨B,y,c',qs,rfl,F,az⟩:=hrel;have ac:=hid F;have au:=hid az;have z0:=zac F.pbx 0;have z1:=zac F.pbx 1;simp only[List.getElem?_toArray,List.getElem?_cons_zero,List.getElem?_cons_succ]at z0 z1;have I:=hid F.cur.len;have an:=hid F.cur.form.2;clear F az;by_cases bq:y<nC
      ·have a6:(y:Int)<(nC:Int):=by omega
       go_wp2_with fail
       refine(Rt.int (y:Int) (by omega) (by omega) _).mono ?_;rintro e w2 ⟨g,A2,m2,c2,D2,md2,cd2,rfl,X,j⟩;have ab:=hid (ac.out.below j);have aW:=hid X;clear X j;go_wp2_with (at_builtin;go_loud (refine zKm rfl _ _ rfl rfl (ab.out.cur.alloc _) rfl (zal _ _ _) (aW.out.alloc _) (by have:=I.out;have:=Z.out;omega) (Nat.le_trans ab.out.bel.size (by simp)) ?_;intro A3 n3 c3 w3 aN aD aC aL a7;have aY:=hid ((ab.out.alloc _).append aS.out aN aD aC aL);clear aN aD aC aL))
       subst a7;exact⟨⟨A3,_,c3,_,rfl,aY.out,fun q X=>by rcases List.mem_append.1 X with h | h;exact au.out q h;rw[List.mem_singleton.1 h];exact zu9 _ (by constructor<;>omega)⟩,by have:=I.out;simp[zKx];omega⟩
      ·have a6:¬((y:Int)<(nC:Int)):=by omega
       have aT:=hid (show nC≤qs.length by have:=I.out;omega);have bk:nC≤c':=Nat.le_trans (by omega) an.out.1;have bl:c'≤9223372036854775807:=by have:=an.out.2.1;unfold maxLen at this;omega
       have bm:(nC:Int)≤(c':Int):=by omega
       have bn:(0:Int)≤(nC:Int):=Int.natCast_nonneg _;have own:=ac.out.own;rw[n.out]at own;have y0:wz.cell? ⟨f,k*5,none⟩=some r.c:=by rw[own.cellAt (k*5) (by omega)];exact(zqG l k r ar.out).1
       have aP:=own.frozenAt (k*5);clear own;go_wp2_with fail
       have be:wz.drew.cell? ⟨w1.heap.size,0,none⟩=some (C,nC,cC):=z0;have bf:wz.drew.cell? ⟨w1.heap.size,1,none⟩=some (f,nR,cR):=z1;have bb:wz.drew.cell? ⟨f,k*5,none⟩=some r.c:=y0;have bc:wz.drew.frozen? ⟨f,k*5,none⟩=false:=aP;go_cut[] (fun wy=>ROut w wy w1.heap.size (C,nC,cC) cost (f,nR,cR) (zei l k (B,nC,c')) (ps.modify k fun p=>{ p with coef:=qs.take nC }))
       case first =>
        go_region
        all_goals
         go_wp2;go_meet
         case rel=>exact(ac.out.put n.out.symm nC (by omega)).drew
       case rest =>
        have HY:=hid hcut;have aE:(zei l k (B,nC,c'))[k]? = some { r with c:=.slice B nC c' }:=by unfold zei;rw[List.getElem?_modify,ar.out];simp
        have own:=hcut.rows.own;rw[List.length_modify,n.out]at own;have v1:=zac hcut.pbx 1;simp only[List.getElem?_toArray,List.getElem?_cons_zero,List.getElem?_cons_succ]at v1;have y1:wc.cell? ⟨f,k*5+1,none⟩=some (.int .i64 r.k):=by rw[own.cellAt (k*5+1) (by omega)];exact(zqG _ k _ aE).2.1
        have bd:=own.frozenAt (k*5+1);clear own hcut aE z0 z1 y0 aP be bf bb bc;have bx:wc.drew.cell? ⟨w1.heap.size,1,none⟩=some (f,nR,cR):=v1;have bB:wc.drew.cell? ⟨f,k*5+1,none⟩=some (.int .i64 r.k):=y1;have bC:wc.drew.frozen? ⟨f,k*5+1,none⟩=false:=bd;go_wp2_with fail
        go_region
        all_goals
         go_wp2;exact⟨⟨k+1,_,_,by simp,by omega,by rw[List.length_modify,List.length_modify,n.out],(HY.out.putK (by rw[List.length_modify,n.out]) k _).drew,zLZ P.out au.out aT.out (zLX r.k)⟩,by simp[intOf];omega⟩
    ·obtain rfl:nR=k:=by omega
     have T:=hid o.res;have s0:=zac o.res 0;have s1:=zac o.res 1;have bv:=zag o.res 0;have bw:=zag o.res 1;simp only[List.getElem?_toArray,List.getElem?_cons_zero,List.getElem?_cons_succ]at s0 s1;clear o;go_wp2;refine bodyPost_ret (v:=.agg #[(C,nC,cC),(R,nR,cR)]) (by simp[results,Tryz.results13,go_sem,s0,s1]) rfl ?_
     have hg:Good1 nC nR cost ps:=⟨Z.out,aa.out.1,aR.out,fun p u=>by obtain⟨i,x⟩:=List.mem_iff_getElem?.1 u;have M:=P.out i p x;exact⟨(M.2.2 (by have:=(List.getElem?_eq_some_iff.1 x).1;have:=n.out;omega)).1,M.1,M.2.1⟩,fun p u=>by obtain⟨i,x⟩:=List.mem_iff_getElem?.1 u;have M:=P.out i p x;exact(M.2.2 (by have:=(List.getElem?_eq_some_iff.1 x).1;have:=n.out;omega)).2⟩
     exact⟨_,_,_,_,_,_,_,cost,ps,rfl,(d.out.cost.setT (p:=⟨w.heap.size+1,0,none⟩) T.out (by decide) (by decide) _).setT (p:=⟨w.heap.size+1,1,none⟩) (zar _ T.out) (by decide) (by decide) _,(d.out.rows.setT (a:=⟨w.heap.size+1,0,none⟩) T.out (by decide) (by decide) (by decide) _).setT (a:=⟨w.heap.size+1,1,none⟩) (zar _ T.out) (by decide) (by decide) (by decide) _,d.out.ap,d.out.fr,hg,bsc (bsc d.out.bel)⟩
