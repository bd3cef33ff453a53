/- Contracts and lemmas: StdW. Conditions: as each says. -/
import Derived.Test.YtbhfhkcdfmmmiaaGreatIntsZv
import Derived.Test.YtbhfhkcdfmmmiaaGreatVec7Zv
set_option linter.all false
set_option maxHeartbeats 4000000
set_option maxRecDepth 100000
namespace Go.Proofs.YtbhfhkcdfmmmiaaGreat
open Go.RowKit Am Tryz
attribute [local go_sem ↓] Go.wp_at_zero Go.wp_at_succ
variable {cs:Array Value}{rows:List PRow}{b k n:Nat}{p:PRow}{t:TypeId}{w:World}
def zca (n:Nat) (rows:List PRow) (k:Nat):List Int:=(List.range k).map fun i=>if (rows.getD i default).kind=3 then -1 else ((n+cnt rows i:Nat):Int)
theorem zsk(n:Nat)(rows:List PRow)(k:Nat):(zca n rows k).length=k:=by simp[zca]
theorem zqm(n:Nat)(rows:List PRow)(k:Nat):zca n rows (k+1)=zca n rows k++[if (rows.getD k default).kind=3 then -1 else ((n+cnt rows k:Nat):Int)]:=by unfold zca;rw[List.range_succ,List.map_append];rfl
theorem zsj{m:Nat}(h:k<m):(zca n rows m)[k]? = some (if (rows.getD k default).kind=3 then -1 else ((n+cnt rows k:Nat):Int)):=by unfold zca;rw[List.getElem?_map,List.getElem?_range h];rfl
theorem zo3(h:rows[k]? = some p):zg8 (rows.take (k+1))=zg8 (rows.take k)++[p.rhs]:=by unfold zg8;rw[List.take_add_one,h];simp
theorem zxG(rows:List PRow):(zg8 rows).length=rows.length:=by simp[zg8]
theorem zux(h:rows[k]? = some p)(a:p.kind=3):cnt rows (k+1)=cnt rows k:=by rw[cnt,zfC h,if_pos a];rfl
theorem zkE(h:rows[k]? = some p)(a:p.kind≠3):cnt rows (k+1)=cnt rows k+1:=by rw[cnt,zfC h,if_neg a]
theorem zgO(rows:List PRow):∀k,cnt rows k≤k
 | 0=>Nat.le_refl _
 | k+1=>by have:=zgO rows k;rw[cnt];split<;>omega
theorem znK(h:rows[k]? = some p)(b:p.kind=3):List.replicate (cnt rows rows.length) 0=zch rows k:=by
 apply List.ext_getElem?;intro t;unfold zch;rw[List.getElem?_replicate,List.getElem?_map];by_cases a:t<cnt rows rows.length
 ·rw[if_pos a,List.getElem?_range a];simp only[List.getD_eq_getElem?_getD,h,Option.getD_some,b,ne_eq,not_true_eq_false,false_and,if_false,Option.map_some]
 ·rw[if_neg a,List.getElem?_eq_none (by simpa using a)];rfl
theorem znJ(h:rows[k]? = some p)(b:p.kind≠3)(c:p.coef.length=n):(p.coef++List.replicate (cnt rows rows.length) 0).set (n+cnt rows k) ((zfI p.kind:Int):Rat)=p.coef++zch rows k:=by
 have hk:=(List.getElem?_eq_some_iff.1 h).1;have f:cnt rows k<cnt rows rows.length:=by
  have h1:=zkE h b;have d:=zyi rows (j:=k+1) (k:=rows.length) (by omega);omega
 rw[List.set_append,if_neg (by omega),c,show n+cnt rows k-n=cnt rows k by omega]
 congr 1
 apply List.ext_getElem?;intro t;unfold zch;rw[List.getElem?_set,List.getElem?_map,List.length_replicate,List.getElem?_replicate,zfC h];by_cases a:t<cnt rows rows.length
 ·rw[List.getElem?_range a];by_cases e:cnt rows k=t
  ·rw[if_pos e,if_pos (by omega)];simp[b,e]
  ·rw[if_neg e,if_pos a];simp only[Option.map_some,b,ne_eq,not_false_eq_true,true_and,if_neg (fun h:t=cnt rows k=>e h.symm)]
 ·rw[if_neg (by omega),if_neg a,List.getElem?_eq_none (by simpa using a)];rfl
theorem zo2(h:rows[k]? = some p):(zc3 rows).take (k+1)=(zc3 rows).take k++[p.coef++zch rows k]:=by
 have hk:=(List.getElem?_eq_some_iff.1 h).1;have e:(zc3 rows)[k]? = some (p.coef++zch rows k):=by unfold zc3;rw[List.getElem?_map,List.getElem?_range hk];simp only[Option.map_some,zfC h]
 rw[List.take_add_one,e];rfl
theorem zjC(rows:List PRow):(zc3 rows).length=rows.length:=by simp[zc3]
theorem zsi(rows:List PRow)(k:Nat):∀q∈zch rows k,mw q≤1:=fun q a=>by
 unfold zch at a;obtain⟨t,_,rfl⟩:=List.mem_map.1 a;split
 ·unfold zfI;split
  ·exact mw1
  ·show mw ((-1:Int):Rat)≤1
   decide
 ·exact mw0
theorem zBb(c:w.heap[b]? = some (.cells cs t (0,0)))(v0 v1 f g i j:Value):TKeep t w ((((((w.setCell ⟨b,0,none⟩ v0).setCell ⟨b,1,none⟩ v1).setCell ⟨b,2,none⟩ f).setCell ⟨b,3,none⟩ g).setCell ⟨b,4,none⟩ i).setCell ⟨b,5,none⟩ j):=fun k _ d=>by
 have a:k≠b:=fun e=>d cs (by rw[e];exact c)
 rw[Below.heap_setCell _ _ _ _ (by exact a),Below.heap_setCell _ _ _ _ (by exact a),Below.heap_setCell _ _ _ _ (by exact a),Below.heap_setCell _ _ _ _ (by exact a),Below.heap_setCell _ _ _ _ (by exact a),Below.heap_setCell _ _ _ _ (by exact a)]
theorem zBa(c:w.heap[b]? = some (.cells cs t (0,0)))(v0 v1:Value):TKeep t w ((w.setCell ⟨b,0,none⟩ v0).setCell ⟨b,1,none⟩ v1):=fun k _ d=>by
 have a:k≠b:=fun e=>d cs (by rw[e];exact c)
 rw[Below.heap_setCell _ _ _ _ (by exact a),Below.heap_setCell _ _ _ _ (by exact a)]
def zCt (w:World) (n m S:Nat) (cost:List Rat) (rows:List PRow) (e:Ending) (w':World):Prop :=
  ∃ (rA:OA) (rc:Nat) (lA:List Value) (bA:OA) (bc_:Nat) (kA:OA) (kc:Nat) (eA:OA) (ec:Nat),
    e=.returned (.tuple #[.agg #[(rA,m,rc),((n+cnt rows m:Nat):Int),(bA,m,bc_),(kA,n+cnt rows m,kc),(n:Int),(eA,m,ec)],.nilIface]) ∧
    StdP w' rA rc lA bA bc_ kA kc eA ec m (n+cnt rows m) S (zc3 rows) (zg8 rows) (zjD cost rows) (zca n rows m)∧Below w w w'
namespace Pb
theorem sign(k:Int)(w:World):Calls prog 101 #[.int .i64 k] w fun e w'=>e=.returned (.int .i64 (zfI k))∧Below w w w':=by
 by_cases h:k=1
 ·have b:(k == 1)=true:=by simp[h]
  have a:zfI k=1:=by unfold zfI;rw[if_pos h]
  rw[a];go_enter func101,ntmps101;go_wp2;go_ret
  exact⟨rfl,Below.refl _ _⟩
 ·have b:(k == 1)=false:=by simp[h]
  have a:zfI k = -1:=by unfold zfI;rw[if_neg h]
  rw[a];go_enter func101,ntmps101;go_wp2;go_ret
  exact⟨rfl,Below.refl _ _⟩
theorem standard(S:Nat)(hS:1≤S)(C:OA)(nc cc:Nat)(R:OA)(nr cr:Nat)(cost:List Rat)(rows:List PRow)(w:World)(hc:VecS w 0 (C,nc,cc) cost)(hr:RowsS w 0 (R,nr,cr) rows)(u:nc≤24)(dK:nr≤20)(c1:Rows nc rows)(c0:Kinds rows)(zc:∀q∈cost,mw q≤S)(zr:∀p∈rows,(∀q∈p.coef,mw q≤S)∧mw p.rhs≤S) :
  Calls prog 52 #[.agg #[(C,nc,cc),(R,nr,cr)]] w (zCt w nc nr S cost rows):=by
 have dr:=un hc.len;have T:=un hr.len;have aV:=un c1;have dq:=un c0;have b3:=un hS;have dD:=un zc;have cW:=un zr;clear c1 c0 hS zc zr;obtain⟨W,hW⟩:∃W,((w.alloc (.cells #[(C,nc,cc),(R,nr,cr)] 31)).alloc (.cells #[(),.int .i64 0,(),(),.int .i64 0,()] 113))=W:=⟨_,rfl⟩
 have aX:=un (show W.heap[w.heap.size]? = some (.cells #[(C,nc,cc),(R,nr,cr)] 31 (0,0))by rw[←hW];exact zak (zam (by simp)));have bw:=un (show W.heap[w.heap.size+1]? = some (.cells #[(),.int .i64 0,(),(),.int .i64 0,()] 113 (0,0))by rw[←hW];exact zam (by simp));have BB:=un (show Below w w W by rw[←hW];exact(zae w _).alloc (by simp) _)
 have HC:=un (show VecS W 0 (C,nc,cc) cost by rw[←hW];exact((hc).alloc _).alloc _);have HR:=un (show RowsS W 0 (R,nr,cr) rows by rw[←hW];exact((hr).alloc _).alloc _);obtain⟨eL,_,_,_,eM,eG,_⟩:=bf2 aX.o;clear hc hr;go_enter func52,ntmps52;go_wp2_with fail
 clear hW;with_reducible refine(may C nc cc R nr cr cost rows _ HC.o HR.o u dK aV.o dq.o).mono ?_
 rintro e w1 ⟨rfl,hb_⟩;have dh:=un (zad hb_ aX.o);obtain⟨eJ,_,_,_,eK,eO,_⟩:=bf2 dh.o;have dm:=un hb_;have aj:=un (hb_.size);clear hb_;have dG:=zae w1 (.cells #[(),.int .i64 0,(),(),(nc:Int),()] 113);have eH:=un (zad dG dh.o);obtain⟨_,_,_,_,eN,eI,_⟩:=bf2 eH.o;go_wp2
 go_loopw [7,31] (fun cv i wr=>∃(k:Nat) (bA:OA) (bc_:Nat) (eA:OA) (ec:Nat),i=.int .i64 k∧cv=.int .i64 ((nc+cnt rows k:Nat):Int)∧k≤nr∧wr.heap[w1.heap.size]? = some (.cells #[(),.int .i64 0,.slice bA k bc_,(),(nc:Int),.slice eA k ec] 113 (0,0))∧VecS wr W.heap.size (.slice bA k bc_) (zg8 (rows.take k))∧IntsZ wr W.heap.size (.slice eA k ec) (zca nc rows k)∧Below W.heap.size W wr)
  (fun _ i _=>nr-(intOf i).toNat)
 case atStart=>exact⟨0,none,0,none,0,rfl,by simp[cnt],Nat.zero_le _,zal _ _ _,VecS.nil _ _,IntsZ.nil _ _,dm.o.alloc aj.o _⟩
 case round =>
  obtain⟨k,bA,bc_,eA,ec,rfl,rfl,hk,bB,aa,ab,a⟩:=hrel;by_cases bE:k<nr
  ·obtain⟨p,G⟩:∃p,rows[k]? = some p:=⟨rows[k]'(by rw[←T.o];exact bE),List.getElem?_eq_getElem _⟩
   obtain⟨b,rfl,dE,dF⟩:=HR.o.has (by omega);obtain⟨Q,nq,s,g,A,m,c,D,o,f,k0,t,k2,k3,k4,aA,a4⟩:=(HR.o.below a).at_ G;have aK:=un (zad a aX.o);have cD:=un (zad a bw.o);have bI:=un (HC.o.below a);have cm:=un (HR.o.below a);have HQ:=un (a4);have bu:=un (aa);have bv:=un (ab)
   have HW:=un (Bel.mk a);have bc:=un (BB.o.trans ((a).mono BB.o.size));obtain⟨cB,_,_,_,cC,cA,_⟩:=bf2 aK.o;have fY:=k0;have fZ:=t;have f1:=k2;have f0:=k3;have f2:=k4;have cf:=un bB;have O:=un G;have cT:=un (show(zca nc rows k).length=k from zsk _ _ _)
   have cR:=un (show(zg8 (rows.take k)).length=k by rw[zxG,List.length_take,←T.o];omega);have dI:=zgO rows k;have cU:=un (zqm nc rows k);clear a bB aa ab aA a4 G k0 t k2 k3 k4;have cZ:(0:Int)≤(k:Int):=Int.natCast_nonneg _;have bD:(k:Int)<(nr:Int):=by omega
   have cj:=HW.o.b.size;have Z:=zae wr (.cells #[(Q,nq,s),.int .i64 p.kind,g,.slice A m c,(D,o,f)] 43);have ac:=un (zad Z aK.o);have bb:=un (zad Z cD.o);have aD:=un (zad Z cf.o);have aP:=un (cm.o.below Z);have dg:=un (HQ.o.below Z);have cO:=un (bu.o.below Z);have cP:=un (bv.o.below Z);have cF:=un (HW.o.below Z);have am:=un (bc.o.trans ((Z).mono bc.o.size));obtain⟨_,_,_,_,aM,aL,_⟩:=bf2 ac.o
   obtain⟨_,_,_,_,_,_,_,_,_,_,_,_,_,_,_,_,_,_,_,_,bi,bf,_⟩:=bf6 aD.o;have cg:=un (zal wr #[(Q,nq,s),.int .i64 p.kind,g,.slice A m c,(D,o,f)] 43);obtain⟨_,_,fX,_⟩:=bc5 cg.o;by_cases H:p.kind=3
   ·have hd:(p.kind != 3)=false:=by simp[H]
    have cb:=un (show(if (rows.getD k default).kind=3 then -1 else ((nc+cnt rows k:Nat):Int)) = -1 by rw[zfC O.o];exact if_pos H);have bX:=un (zux O.o H);clear H;go_upto_region 14 with fail
    go_cut[] (fun wy=>∃(z:OA) (B:Nat),wy.heap[w1.heap.size]? = some (.cells #[(),.int .i64 0,.slice bA k bc_,(),(nc:Int),.slice z (k+1) B] 113 (0,0))∧wy.heap[wr.heap.size]? = some (.cells #[(Q,nq,s),.int .i64 p.kind,g,.slice A m c,(D,o,f)] 43 (0,0))∧RatS wy g (.slice A m c) (D,o,f) p.rhs∧VecS wy W.heap.size (.slice bA k bc_) (zg8 (rows.take k))∧IntsZ wy W.heap.size (.slice z (k+1) B) (zca nc rows (k+1))∧Below W.heap.size W wy)
    case first=>as_aux_lemma =>
     go_wp2_with (at_builtin;refine zfS rfl _ _ rfl rfl (cP.o.alloc (.cells #[.int .i64 (-1)] 3)) rfl (zbD _ _ _ _) (n:=k) cT.o (by omega) (by simp;omega) ?_;intro z B w5 aZ K E;have bZ:=un aZ;have aT:=un K;have ap:=un ((cF.o.alloc (.cells #[.int .i64 (-1)] 3)).b.trans E);have F:=un (K.blk (zak aD.o) (by decide));have KR:=un (K.blk (zak cg.o) (by decide));have dP:=zag F.o 5;have dR:=zac F.o 5;clear aZ K E)
     go_meet;have t:TKeep 113 w5 (w5.setCell ⟨w1,5,none⟩ (.slice z (k+1) B)):=TKeep.set F.o _
     case rel=>exact⟨z,B,zar _ F.o,t.blk KR.o (by decide),((dg.o.alloc _).tk aT.o (by decide)).tk t (by decide),((cO.o.alloc _).tk aT.o (by decide) (by decide)).tk t (by decide) (by decide),by rw[cU.o,cb.o];exact bZ.o.tk t (by decide),ap.o.setCell (p:=⟨w1,5,none⟩) aj.o _⟩
    case rest =>
     rename World=>wy
     obtain⟨z,B,L,ay,a3,a5,a2,E⟩:=hcut;have F:=un L;have KR:=un ay;have b2:=un a3;have b4:=un a5;have ar:=un a2;have b9:=un (Bel.mk E);have dM:=E.size;obtain⟨s0,_,_,_,s1,_,_,_,s2,_,_,_,s3,_,_,_,s4,_,_,_,s5,_⟩:=bf6 L;obtain⟨_,_,_,_,r2,_,r3,_,r4,_⟩:=bc5 ay;clear L ay a3 a5 a2 E
     go_wp2_with (at_builtin;refine zfR rfl _ _ rfl rfl (b4.o.alloc (.cells #[g,.slice A m c,(D,o,f)] 41)) rfl (zal _ _ _) (b2.o.alloc _) (N:=k) cR.o (by omega) (by simp;omega) ?_;intro A6 c6 w6 a6 ax a1;have b5:=un a6;have b0:=un ax;have bV:=un ((b9.o.alloc (.cells #[g,.slice A m c,(D,o,f)] 41)).b.trans a1);have ad:=un (ax.blk (zak F.o) (by decide));have dO:=zag ad.o 2;have dQ:=zac ad.o 2;clear a6 ax a1)
     go_roundw
     have t:TKeep 113 w6 (w6.setCell ⟨w1,2,none⟩ (.slice A6 (k+1) c6)):=TKeep.set ad.o _
     case rel=>exact⟨k+1,A6,c6,z,B,by go_num,by rw[bX.o];simp,by omega,zar _ ad.o,by rw[zo3 O.o];exact b5.o.tk t (by decide) (by decide),((ar.o.alloc _).tk b0.o (by decide)).tk t (by decide),bV.o.setCell (p:=⟨w1,2,none⟩) aj.o _⟩
     case measure=>simp[intOf];omega
   ·have hd:(p.kind != 3)=true:=by simp[H]
    have cb:=un (show(if (rows.getD k default).kind=3 then -1 else ((nc+cnt rows k:Nat):Int))=((nc+cnt rows k:Nat):Int)by rw[zfC O.o];exact if_neg H);have bX:=un (zkE O.o H);clear H;go_upto_region 14 with fail
    go_cut[] (fun wy=>∃(z:OA) (B:Nat),wy.heap[w1.heap.size]? = some (.cells #[(),.int .i64 0,.slice bA k bc_,(),(nc:Int),.slice z (k+1) B] 113 (0,0))∧wy.heap[wr.heap.size]? = some (.cells #[(Q,nq,s),.int .i64 p.kind,g,.slice A m c,(D,o,f)] 43 (0,0))∧RatS wy g (.slice A m c) (D,o,f) p.rhs∧VecS wy W.heap.size (.slice bA k bc_) (zg8 (rows.take k))∧IntsZ wy W.heap.size (.slice z (k+1) B) (zca nc rows (k+1))∧Below W.heap.size W wy)
    case first=>as_aux_lemma =>
     go_wp2_with (at_builtin;refine zfS rfl _ _ rfl rfl (cP.o.alloc (.cells #[.int .i64 (((nc+cnt rows k:Nat):Int))] 3)) rfl (zbD _ _ _ _) (n:=k) cT.o (by omega) (by simp;omega) ?_;intro z B w5 aZ K E;have bZ:=un aZ;have aT:=un K;have ap:=un ((cF.o.alloc (.cells #[.int .i64 (((nc+cnt rows k:Nat):Int))] 3)).b.trans E);have F:=un (K.blk (zak aD.o) (by decide));have KR:=un (K.blk (zak cg.o) (by decide));have dP:=zag F.o 5;have dR:=zac F.o 5;clear aZ K E)
     go_meet;have t:TKeep 113 w5 (w5.setCell ⟨w1,5,none⟩ (.slice z (k+1) B)):=TKeep.set F.o _
     case rel=>exact⟨z,B,zar _ F.o,t.blk KR.o (by decide),((dg.o.alloc _).tk aT.o (by decide)).tk t (by decide),((cO.o.alloc _).tk aT.o (by decide) (by decide)).tk t (by decide) (by decide),by rw[cU.o,cb.o];exact bZ.o.tk t (by decide),ap.o.setCell (p:=⟨w1,5,none⟩) aj.o _⟩
    case rest =>
     rename World=>wy
     obtain⟨z,B,L,ay,a3,a5,a2,E⟩:=hcut;have F:=un L;have KR:=un ay;have b2:=un a3;have b4:=un a5;have ar:=un a2;have b9:=un (Bel.mk E);have dM:=E.size;obtain⟨s0,_,_,_,s1,_,_,_,s2,_,_,_,s3,_,_,_,s4,_,_,_,s5,_⟩:=bf6 L;obtain⟨_,_,_,_,r2,_,r3,_,r4,_⟩:=bc5 ay;clear L ay a3 a5 a2 E
     go_wp2_with (at_builtin;refine zfR rfl _ _ rfl rfl (b4.o.alloc (.cells #[g,.slice A m c,(D,o,f)] 41)) rfl (zal _ _ _) (b2.o.alloc _) (N:=k) cR.o (by omega) (by simp;omega) ?_;intro A6 c6 w6 a6 ax a1;have b5:=un a6;have b0:=un ax;have bV:=un ((b9.o.alloc (.cells #[g,.slice A m c,(D,o,f)] 41)).b.trans a1);have ad:=un (ax.blk (zak F.o) (by decide));have dO:=zag ad.o 2;have dQ:=zac ad.o 2;clear a6 ax a1)
     go_roundw
     have t:TKeep 113 w6 (w6.setCell ⟨w1,2,none⟩ (.slice A6 (k+1) c6)):=TKeep.set ad.o _
     case rel=>exact⟨k+1,A6,c6,z,B,by go_num,by rw[bX.o];simp;omega,by omega,zar _ ad.o,by rw[zo3 O.o];exact b5.o.tk t (by decide) (by decide),((ar.o.alloc _).tk b0.o (by decide)).tk t (by decide),bV.o.setCell (p:=⟨w1,2,none⟩) aj.o _⟩
     case measure=>simp[intOf];omega
  ·obtain rfl:nr=k:=by omega
   have aK:=un (zad a aX.o);have cD:=un (zad a bw.o);have bI:=un (HC.o.below a);have cm:=un (HR.o.below a);have bu:=un (aa);have bv:=un (ab);have HW:=un (Bel.mk a);have bc:=un (BB.o.trans ((a).mono BB.o.size));obtain⟨cB,_,_,_,cC,cA,_⟩:=bf2 aK.o;have cf:=un bB
   have dt:=un (show rows.take nr=rows by rw[T.o,List.take_length]);clear a bB aa ab;have dI:=zgO rows nr;have cj:=HW.o.b.size;obtain⟨cB,_,_,_,cC,cA,_⟩:=bf2 aK.o;go_upto_region 17 with fail
   go_cut[] (fun wy=>∃(M:OA) (P:Nat),wy.heap[w1.heap.size]? = some (.cells #[(),.int .i64 0,(bA,nr,bc_),(M,nc+cnt rows nr,P),(nc:Int),(eA,nr,ec)] 113 (0,0))∧VecS wy W.heap.size (M,nc+cnt rows nr,P) (zjD cost rows)∧VecS wy W.heap.size (bA,nr,bc_) (zg8 (rows.take nr))∧IntsZ wy W.heap.size (eA,nr,ec) (zca nc rows nr)∧Below W.heap.size W wy)
   case first=>as_aux_lemma =>
    go_wp2_with fail
    with_reducible refine(Vc.copy C nc cc cost 0 _ bI.o (by omega)).mono ?_
    rintro e w5 ⟨A7,c7,rfl,hv7,u⟩;have ac:=un (zad u aK.o);have bb:=un (zad u cD.o);have aD:=un (zad u cf.o);have aP:=un (cm.o.below u);have cO:=un (bu.o.below u);have cP:=un (bv.o.below u);have cF:=un (HW.o.below u);have aR:=un (hv7);have am:=un (bc.o.trans ((u).mono bc.o.size));obtain⟨_,_,_,_,aM,aL,_⟩:=bf2 ac.o;obtain⟨_,_,_,_,_,_,_,_,_,_,_,_,_,_,_,_,_,_,_,_,bi,bf,_⟩:=bf6 aD.o
    have ai:=un u;clear hv7 u;go_wp2_with (at_builtin;refine zb3 rfl _ _ rfl rfl aR.o rfl (n:=cnt rows nr) (by omega) (N:=nc+cnt rows nr) (by rw[←dr.o]) (by omega) (by have:=ai.o.size;omega) ?_;intro M P U J aI al;have X:=un J;have bW:=un (ai.o.trans al);have dk:=un (HW.o.b.trans (bW.o.mono cj));have F:=un (aI.blk aD.o (by decide));have fI:=zag F.o 3;have fJ:=zac F.o 3;clear J aI al)
    go_meet;have t:TKeep 113 U (U.setCell ⟨w1,3,none⟩ (M,nc+cnt rows nr,P)):=TKeep.set F.o _
    case rel=>exact⟨M,P,zar _ F.o,by unfold zjD;rw[←T.o];exact(X.o.base cj).tk t (by decide) (by decide),(bu.o.below bW.o).tk t (by decide) (by decide),(bv.o.below bW.o).tk t (by decide),dk.o.setCell (p:=⟨w1,3,none⟩) aj.o _⟩
   case rest =>
    rename World=>wb
    obtain⟨M,P,L,a7,aa,ab,a⟩:=hcut;have ac:=un (zad a aX.o);have bb:=un (zad a bw.o);have aP:=un (HR.o.below a);have dy:=un (a7);have dw:=un (aa);have aW:=un (ab);have am:=un (BB.o.trans ((a).mono BB.o.size));obtain⟨_,_,_,_,aM,aL,_⟩:=bf2 ac.o
    have bz:=un L;obtain⟨_,_,_,_,_,_,_,_,_,_,_,_,_,_,_,_,_,_,_,_,bi,bf,_⟩:=bf6 bz.o;clear eL eM eG eJ eK eO eN eI cB cC cA;have dC:=un a.size;have dl:=un a;clear L a7 aa ab a;go_wp2;simp only[Int.natCast_add]
    go_loopw [11,66] (fun rv i wz=>∃(k:Nat) (rA:OA) (rc:Nat) (l:List Value),i=.int .i64 k∧rv=.slice rA k rc∧k≤nr∧VecsL wz wb (.slice rA k rc) l ((zc3 rows).take k)∧Below wb wb wz)
     (fun _ i _=>nr-(intOf i).toNat)
    case atStart=>exact⟨0,none,0,[],rfl,rfl,Nat.zero_le _,VecsL.nil _ _,Below.refl _ _⟩
    case round =>
     rename World=>wz
     obtain⟨k,rA,rc,l,rfl,rfl,hk,ae,a⟩:=hrel;by_cases bE:k<nr
     ·obtain⟨p,G⟩:∃p,rows[k]? = some p:=⟨rows[k]'(by rw[←T.o];exact bE),List.getElem?_eq_getElem _⟩
      obtain⟨b,rfl,dE,dF⟩:=HR.o.has (by omega);obtain⟨bl,rfl,fG,fH⟩:=aW.o.has (by omega);obtain⟨Q,nq,s,g,A,m,c,D,o,f,k0,t,k2,k3,k4,aA,a4⟩:=(aP.o.below a).at_ G;obtain rfl:nc=nq:=by rw[aA.len,(aV.o p (List.mem_of_getElem? G)).1]
      have l0:=(aW.o.below a).at_ (zsj (n:=nc) (rows:=rows) bE);by_cases H:p.kind=3
      ·skip
       rw[zfC G,if_pos H]at l0;have bd:=un (zad a ac.o);have be:=un (zad a bb.o);have bg:=un (zad a bz.o);have ba:=un (aP.o.below a);have bp:=un (aW.o.below a);have HQ:=un (aA);have aE:=un (ae);have av:=un (Bel.mk a);have an:=un (am.o.trans ((a).mono am.o.size));have bh:=k0
       have bj:=t;have bk:=k2;have bm:=k3;have bn:=k4;have bo:=l0;have O:=un G;have bY:=un H;have b1:=un (show((zc3 rows).take k).length=k by rw[List.length_take,zjC,←T.o];omega);have aS:=un (aV.o p (List.mem_of_getElem? G)).1;have dN:=av.o.b.size
       clear a ae aA a4 G H k0 t k2 k3 k4 l0;have cZ:(0:Int)≤(k:Int):=Int.natCast_nonneg _;have bD:(k:Int)<(nr:Int):=by omega
       have x:=zae wz (.cells #[(Q,nc,s),.int .i64 p.kind,g,.slice A m c,(D,o,f)] 43);have bK:=un (zad x bd.o);have bL:=un (zad x be.o);have ag:=un (zad x bg.o);have bJ:=un (ba.o.below x);have bq:=un (bp.o.below x);have a9:=un (HQ.o.below x);have bs:=un (aE.o.below x);have aO:=un (av.o.below x);have aN:=un (an.o.trans ((x).mono an.o.size));obtain⟨cG,_,cI,_,cH,_,cJ,_⟩:=bf6 ag.o;have bM:=zab x bh;have bO:=zab x bj;have bP:=zab x bk;have bQ:=zab x bm
       have bR:=zab x bn;have bS:=zab x bo;have bT:(wz.alloc (.cells #[(Q,nc,s),.int .i64 p.kind,g,.slice A m c,(D,o,f)] 43)).cell? ⟨wz.heap.size,0,none⟩=some (Q,nc,s):=zax rfl rfl;have bF:(wz.alloc (.cells #[(Q,nc,s),.int .i64 p.kind,g,.slice A m c,(D,o,f)] 43)).cell? ⟨wz.heap.size,1,none⟩=some (.int .i64 p.kind):=zax rfl rfl
       have bG:(wz.alloc (.cells #[(Q,nc,s),.int .i64 p.kind,g,.slice A m c,(D,o,f)] 43)).cell? ⟨wz.heap.size,2,none⟩=some (.bool g):=zax rfl rfl;have bH:(wz.alloc (.cells #[(Q,nc,s),.int .i64 p.kind,g,.slice A m c,(D,o,f)] 43)).cell? ⟨wz.heap.size,3,none⟩=some (.slice A m c):=zax rfl rfl;have bN:(wz.alloc (.cells #[(Q,nc,s),.int .i64 p.kind,g,.slice A m c,(D,o,f)] 43)).cell? ⟨wz.heap.size,4,none⟩=some (D,o,f):=zax rfl rfl
       go_upto_region 22 with fail
       clear aM aL bi bf bh bj bk bm bn bo;have ce:=un (show wb.heap.size≤(wz.alloc (.cells #[(Q,nc,s),.int .i64 p.kind,g,.slice A m c,(D,o,f)] 43)).heap.size by simp;omega)
       go_cut[14] (fun xv wy=>∃(I:OA) (y:Nat),xv=(I,nc+cnt rows nr,y)∧VecS wy (wz.alloc (.cells #[(Q,nc,s),.int .i64 p.kind,g,.slice A m c,(D,o,f)] 43)).heap.size (I,nc+cnt rows nr,y) (p.coef++List.replicate (cnt rows nr) 0)∧Below (wz.alloc (.cells #[(Q,nc,s),.int .i64 p.kind,g,.slice A m c,(D,o,f)] 43)).heap.size (wz.alloc (.cells #[(Q,nc,s),.int .i64 p.kind,g,.slice A m c,(D,o,f)] 43)) wy)
       case first=>as_aux_lemma =>
        go_wp2_with fail
        refine(Vc.copy Q nc s p.coef 0 _ a9.o (by omega)).mono ?_;rintro e u1 ⟨A7,c7,rfl,hv7,hb7⟩;have aR:=un hv7;have ai:=un hb7;clear hv7 hb7;go_wp2_with (at_builtin;refine zb3 rfl _ _ rfl rfl aR.o rfl (n:=cnt rows nr) (by omega) (N:=nc+cnt rows nr) (by rw[aS.o]) (by omega) (by exact ai.o.size) ?_;intro I y U J aI al;have X:=un J;have aq:=un (ai.o.trans al);clear J aI al)
        go_meet
        case rel=>exact⟨I,y,rfl,X.o,aq.o⟩
       case rest =>
        rename World=>U
        obtain⟨I,y,rfl,J,d⟩:=hcut;have X:=un J;have aq:=un d;have cE:=un (zad d bK.o);have cM:=un (zad d bL.o);have cN:=un (zad d ag.o);have eF:=un (bJ.o.below d);have ey:=un (bq.o.below d);have eE:=un (a9.o.below d);have de:=un (bs.o.below d);have dj:=un (aO.o.below d);have fg:=un (aN.o.trans ((d).mono aN.o.size));obtain⟨eR,eP,eV,eT,eS,eQ,eW,eU⟩:=bf2 cE.o;obtain⟨el,fn,d9,eZ,em,fp,ea,e0,en,fr,eb,e1,eo,ft,ed,e2,ep,fv,ee,e3,eq,fx,ef,e4⟩:=bf6 cM.o
        obtain⟨er,fy,eg,e5,es,fh,eh,e6,et,fi,ei,e7,eu,fj,d6,e8,ej,fk,d7,eX,ek,fl,d8,eY⟩:=bf6 cN.o;have cL:=zab d bM;have dV:=zaa cL;have cx:=zab d bO;have dX:=zaa cx;have cy:=zab d bP;have dY:=zaa cy;have cz:=zab d bQ;have dZ:=zaa cz;have cn:=zab d bR;have d0:=zaa cn;have cp:=zab d bS;have d1:=zaa cp;have cs:=zab d bT;have d2:=zaa cs;have ct:=zab d bF;have d3:=zaa ct;have cu:=zab d bG;have d4:=zaa cu;have cw:=zab d bH;have d5:=zaa cw;have cK:=zab d bN;have dW:=zaa cK;clear J d
        clear cG cI cH cJ bM bO bP bQ bR bS bT bF bG bH bN;go_upto_region 24 with fail
        go_cut[84] (fun c wx=>c=false∧wx=U)
        case first =>
         go_wp2;go_meet;exact⟨by first | rfl | (simp;done) | (simp;omega),rfl⟩
        obtain⟨rfl,rfl⟩:=hcut;rename World=>U
        go_upto_region 26 with fail
        have b7:=un (show VecS U wb (I,nc+cnt rows nr,y) (p.coef++zch rows k)by have h:=X.o;rw[←znK O.o bY.o,←T.o];exact h.base ce.o);have b8:=un (b7.o.alloc (.cells #[(I,nc+cnt rows nr,y)] 28));have b6:=un (de.o.alloc (.cells #[(I,nc+cnt rows nr,y)] 28));have aQ:=un ((dj.o.alloc (.cells #[(I,nc+cnt rows nr,y)] 28)).b)
        go_wp2_with (at_builtin;go_loud (refine zbW rfl _ _ rfl rfl b6.o rfl (zal _ _ _) b8.o (n:=k) b1.o (by omega) (by exact aQ.o.size) ?_;intro z B w5 a0 K E ci;have ar:=un a0;have ap:=un (aQ.o.trans E);clear a0 K E ci))
        go_roundw
        case rel=>exact⟨k+1,z,B,_,by go_num,rfl,by omega,by rw[zo2 O.o];exact ar.o,ap.o⟩
        case measure=>simp[intOf];omega
      ·skip
       rw[zfC G,if_neg H]at l0;have bd:=un (zad a ac.o);have be:=un (zad a bb.o);have bg:=un (zad a bz.o);have ba:=un (aP.o.below a);have bp:=un (aW.o.below a);have HQ:=un (aA);have aE:=un (ae);have av:=un (Bel.mk a);have an:=un (am.o.trans ((a).mono am.o.size));have bh:=k0
       have bj:=t;have bk:=k2;have bm:=k3;have bn:=k4;have bo:=l0;have O:=un G;have bY:=un H;have b1:=un (show((zc3 rows).take k).length=k by rw[List.length_take,zjC,←T.o];omega);have aS:=un (aV.o p (List.mem_of_getElem? G)).1
       have fE:cnt rows k<cnt rows nr:=by have h1:=zkE G H;have h2:=zyi rows (j:=k+1) (k:=nr) (by omega);omega
       have dN:=av.o.b.size;clear a ae aA a4 G H k0 t k2 k3 k4 l0;have cZ:(0:Int)≤(k:Int):=Int.natCast_nonneg _;have bD:(k:Int)<(nr:Int):=by omega
       have x:=zae wz (.cells #[(Q,nc,s),.int .i64 p.kind,g,.slice A m c,(D,o,f)] 43);have bK:=un (zad x bd.o);have bL:=un (zad x be.o);have ag:=un (zad x bg.o);have bJ:=un (ba.o.below x);have bq:=un (bp.o.below x);have a9:=un (HQ.o.below x);have bs:=un (aE.o.below x);have aO:=un (av.o.below x);have aN:=un (an.o.trans ((x).mono an.o.size));obtain⟨cG,_,cI,_,cH,_,cJ,_⟩:=bf6 ag.o;have bM:=zab x bh;have bO:=zab x bj;have bP:=zab x bk;have bQ:=zab x bm
       have bR:=zab x bn;have bS:=zab x bo;have bT:(wz.alloc (.cells #[(Q,nc,s),.int .i64 p.kind,g,.slice A m c,(D,o,f)] 43)).cell? ⟨wz.heap.size,0,none⟩=some (Q,nc,s):=zax rfl rfl;have bF:(wz.alloc (.cells #[(Q,nc,s),.int .i64 p.kind,g,.slice A m c,(D,o,f)] 43)).cell? ⟨wz.heap.size,1,none⟩=some (.int .i64 p.kind):=zax rfl rfl
       have bG:(wz.alloc (.cells #[(Q,nc,s),.int .i64 p.kind,g,.slice A m c,(D,o,f)] 43)).cell? ⟨wz.heap.size,2,none⟩=some (.bool g):=zax rfl rfl;have bH:(wz.alloc (.cells #[(Q,nc,s),.int .i64 p.kind,g,.slice A m c,(D,o,f)] 43)).cell? ⟨wz.heap.size,3,none⟩=some (.slice A m c):=zax rfl rfl;have bN:(wz.alloc (.cells #[(Q,nc,s),.int .i64 p.kind,g,.slice A m c,(D,o,f)] 43)).cell? ⟨wz.heap.size,4,none⟩=some (D,o,f):=zax rfl rfl
       go_upto_region 22 with fail
       clear aM aL bi bf bh bj bk bm bn bo;have ce:=un (show wb.heap.size≤(wz.alloc (.cells #[(Q,nc,s),.int .i64 p.kind,g,.slice A m c,(D,o,f)] 43)).heap.size by simp;omega)
       go_cut[14] (fun xv wy=>∃(I:OA) (y:Nat),xv=(I,nc+cnt rows nr,y)∧VecS wy (wz.alloc (.cells #[(Q,nc,s),.int .i64 p.kind,g,.slice A m c,(D,o,f)] 43)).heap.size (I,nc+cnt rows nr,y) (p.coef++List.replicate (cnt rows nr) 0)∧Below (wz.alloc (.cells #[(Q,nc,s),.int .i64 p.kind,g,.slice A m c,(D,o,f)] 43)).heap.size (wz.alloc (.cells #[(Q,nc,s),.int .i64 p.kind,g,.slice A m c,(D,o,f)] 43)) wy)
       case first=>as_aux_lemma =>
        go_wp2_with fail
        refine(Vc.copy Q nc s p.coef 0 _ a9.o (by omega)).mono ?_;rintro e u1 ⟨A7,c7,rfl,hv7,hb7⟩;have aR:=un hv7;have ai:=un hb7;clear hv7 hb7;go_wp2_with (at_builtin;refine zb3 rfl _ _ rfl rfl aR.o rfl (n:=cnt rows nr) (by omega) (N:=nc+cnt rows nr) (by rw[aS.o]) (by omega) (by exact ai.o.size) ?_;intro I y U J aI al;have X:=un J;have aq:=un (ai.o.trans al);clear J aI al)
        go_meet
        case rel=>exact⟨I,y,rfl,X.o,aq.o⟩
       case rest =>
        rename World=>U
        obtain⟨I,y,rfl,J,d⟩:=hcut;have X:=un J;have aq:=un d;have cE:=un (zad d bK.o);have cM:=un (zad d bL.o);have cN:=un (zad d ag.o);have eF:=un (bJ.o.below d);have ey:=un (bq.o.below d);have eE:=un (a9.o.below d);have de:=un (bs.o.below d);have dj:=un (aO.o.below d);have fg:=un (aN.o.trans ((d).mono aN.o.size));obtain⟨eR,eP,eV,eT,eS,eQ,eW,eU⟩:=bf2 cE.o;obtain⟨el,fn,d9,eZ,em,fp,ea,e0,en,fr,eb,e1,eo,ft,ed,e2,ep,fv,ee,e3,eq,fx,ef,e4⟩:=bf6 cM.o
        obtain⟨er,fy,eg,e5,es,fh,eh,e6,et,fi,ei,e7,eu,fj,d6,e8,ej,fk,d7,eX,ek,fl,d8,eY⟩:=bf6 cN.o;have cL:=zab d bM;have dV:=zaa cL;have cx:=zab d bO;have dX:=zaa cx;have cy:=zab d bP;have dY:=zaa cy;have cz:=zab d bQ;have dZ:=zaa cz;have cn:=zab d bR;have d0:=zaa cn;have cp:=zab d bS;have d1:=zaa cp;have cs:=zab d bT;have d2:=zaa cs;have ct:=zab d bF;have d3:=zaa ct;have cu:=zab d bG;have d4:=zaa cu;have cw:=zab d bH;have d5:=zaa cw;have cK:=zab d bN;have dW:=zaa cK;clear J d
        go_upto_region 24 with fail
        go_cut[84] (fun c wx=>c=true∧wx=U)
        case first =>
         go_wp2;go_meet;exact⟨by first | rfl | (simp;done) | (simp;omega),rfl⟩
        obtain⟨rfl,rfl⟩:=hcut;rename World=>U
        go_upto_region 25 with fail
        obtain⟨bx,rfl,dH,fD⟩:=X.o.has (by omega);have ca:=un dH;go_cut[] (fun wy=>VecS wy (wz.alloc (.cells #[(Q,nc,s),.int .i64 p.kind,g,.slice A m c,(D,o,f)] 43)).heap.size (bx,nc+cnt rows nr,y) (p.coef++zch rows k)∧Below (wz.alloc (.cells #[(Q,nc,s),.int .i64 p.kind,g,.slice A m c,(D,o,f)] 43)).heap.size (wz.alloc (.cells #[(Q,nc,s),.int .i64 p.kind,g,.slice A m c,(D,o,f)] 43)) wy)
        case first=>as_aux_lemma =>
         have cV:=un (show -9223372036854775808≤zfI p.kind∧zfI p.kind≤9223372036854775807 by unfold zfI;split<;>decide);go_wp2_with fail
         with_reducible refine(sign p.kind _).mono ?_
         rintro e v1 ⟨rfl,u⟩;have eB:=un (X.o.below u);have cS:=un u;clear u;go_wp2_with fail
         with_reducible refine(Rt.int (zfI p.kind) cV.o.1 cV.o.2 _).mono ?_
         rintro e v2 ⟨g9,A6,m9,c6,D9,md9,cd9,rfl,hn9,u⟩;have br:=un (eB.o.below u);have ds:=un (hn9);have dp:=un (aq.o.trans ((cS.o.trans (u.mono cS.o.size)).mono aq.o.size));clear u hn9;obtain⟨go,Ao,mo,co,Do,fK,fB,o0,o1,o2,_⟩:=br.o.at_ (zaH (xs:=p.coef++List.replicate (cnt rows nr) 0) (j:=nc+cnt rows k) (by rw[List.length_append,List.length_replicate,aS.o];omega))
         have fP:=br.o.fro ((nc+cnt rows k)*3);have of1:=br.o.fro ((nc+cnt rows k)*3+1);have fQ:=br.o.fro ((nc+cnt rows k)*3+2);have fF:(0:Int)≤((nc+cnt rows k:Nat):Int):=Int.natCast_nonneg _;go_wp2;go_meet
         case rel=>exact⟨by rw[←znJ O.o bY.o aS.o,←T.o];exact br.o.store (nc+cnt rows k) ds.o,((dp.o.setCell (p:=⟨bx,_,none⟩) ca.o _).setCell (p:=⟨bx,_,none⟩) ca.o _).setCell (p:=⟨bx,_,none⟩) ca.o _⟩
        case rest =>
         rename World=>wy
         obtain⟨c2,ch⟩:=hcut;have ev:=un (bs.o.below ch);have ff:=un (aO.o.below ch);have dB:=un (c2);clear c2 ch;have b7:=un (dB.o.base ce.o);have b8:=un (b7.o.alloc (.cells #[(bx,nc+cnt rows nr,y)] 28))
         have b6:=un (ev.o.alloc (.cells #[(bx,nc+cnt rows nr,y)] 28));have aQ:=un ((ff.o.alloc (.cells #[(bx,nc+cnt rows nr,y)] 28)).b);go_wp2_with (at_builtin;go_loud (refine zbW rfl _ _ rfl rfl b6.o rfl (zal _ _ _) b8.o (n:=k) b1.o (by omega) (by exact aQ.o.size) ?_;intro z B w5 a0 K E ci;have ar:=un a0;have ap:=un (aQ.o.trans E);clear a0 K E ci))
         go_roundw
         case rel=>exact⟨k+1,z,B,_,by go_num,rfl,by omega,by rw[zo2 O.o];exact ar.o,ap.o⟩
         case measure=>simp[intOf];omega
     ·obtain rfl:nr=k:=by omega
      have bd:=un (zad a ac.o);have be:=un (zad a bb.o);have bg:=un (zad a bz.o);have ba:=un (aP.o.below a);have eC:=un (dy.o.below a);have ew:=un (dw.o.below a);have bp:=un (aW.o.below a);have aE:=un (ae);have av:=un (Bel.mk a);have an:=un (am.o.trans ((a).mono am.o.size));have bU:=un (show(zc3 rows).take nr=zc3 rows by rw[T.o,←zjC,List.take_length])
      have cQ:=un (show ∀r∈(zc3 rows).take nr,r.length=nc+cnt rows nr from fun r hr=>by rw[bU.o]at hr;obtain⟨i,hi,rfl⟩:=List.getElem_of_mem hr;have h:=(zlk (n:=nc) (rows:=rows) fun k hk=>(aV.o _ (List.mem_of_getElem? (zaO hk))).1).row i (by rw[←zjC];exact hi);rw[←T.o,List.getD_eq_getElem?_getD,List.getElem?_eq_getElem hi]at h;exact h);clear ae a;go_upto_region 28 with fail
      go_cut[] (fun wy=>∃(V:OA) (Y:Nat) (l4:List Value),wy.heap[w1.heap.size]? = some (.cells #[(V,nr,Y),((nc+cnt rows nr:Nat):Int),(bA,nr,bc_),(M,nc+cnt rows nr,P),(nc:Int),(eA,nr,ec)] 113 (0,0))∧VecsL wy 0 (V,nr,Y) l4 (zc3 rows)∧VecS wy 0 (M,nc+cnt rows nr,P) (zjD cost rows)∧VecS wy 0 (bA,nr,bc_) (zg8 rows)∧IntsZ wy 0 (eA,nr,ec) (zca nc rows nr)∧Below W.heap.size W wy)
      case first=>as_aux_lemma =>
       go_wp2_with fail
       rw[show((nc:Int)+(cnt rows nr:Int))=((nc+cnt rows nr:Nat):Int)by simp];with_reducible refine(Mt.of nr (nc+cnt rows nr) (by omega) (by omega) rA rc l ((zc3 rows).take nr) wb.heap.size _ aE.o cQ.o).mono ?_
       rintro e v5 ⟨V,Y,l4,rfl,hv4,ha4,u⟩;have bK:=un (zad u bd.o);have bL:=un (zad u be.o);have ag:=un (zad u bg.o);have bJ:=un (ba.o.below u);have eD:=un (eC.o.below u);have ex:=un (ew.o.below u);have bq:=un (bp.o.below u);have bs:=un (aE.o.below u);have aO:=un (av.o.below u);have du:=un (hv4);have aN:=un (an.o.trans ((u).mono an.o.size));obtain⟨cG,_,cI,_,cH,_,cJ,_⟩:=bf6 ag.o
       have cY:=dl.o.trans ((aO.o.b).mono dC.o);have dn:=un cY;clear u cY hv4 ha4;go_wp2;go_meet;have t:=zBa ag.o (V,nr,Y) ((nc+cnt rows nr:Nat):Int)
       case rel=>exact⟨V,Y,l4,zar _ (zar _ ag.o),by have h:=(du.o.base (Nat.zero_le _)).tk t (by decide) (by decide) (by decide);rw[bU.o]at h;exact h,(eD.o.base (Nat.zero_le _)).tk t (by decide) (by decide),by have h:=(ex.o.base (Nat.zero_le _)).tk t (by decide) (by decide);rw[dt.o]at h;exact h,(bq.o.base (Nat.zero_le _)).tk t (by decide),(dn.o.setCell (p:=⟨w1,0,none⟩) aj.o _).setCell (p:=⟨w1,1,none⟩) aj.o _⟩
      case rest =>
       rename World=>wf
       obtain⟨V,Y,l4,L,ae,a7,aa,ab,a⟩:=hcut;have di:=un (zad a bw.o);have ez:=un (BB.o.trans ((a).mono BB.o.size));obtain⟨fm,e9,fR,_,fo,fa,fS,_,fq,fb,fT,_,fs,fc,fU,_,fu,fd,fV,_,fw,fe,fW,_⟩:=bf6 di.o;have dv:=un ae;have dz:=un a7;have dx:=un aa;have dA:=un ab;obtain⟨s0,_,s1,_,s2,_,s3,_,s4,_,s5,_⟩:=bc6 L;clear L ae a7 aa ab a;go_wp2
       refine bodyPost_ret (v:=.tuple #[.agg #[(V,nr,Y),((nc+cnt rows nr:Nat):Int),(bA,nr,bc_),(M,nc+cnt rows nr,P),(nc:Int),(eA,nr,ec)],.nilIface]) (by simp[results,results52,go_sem,fm,e9,fo,fa,fq,fb,fs,fc,fu,fd,fw,fe]) rfl ?_;have t:=zBb di.o (V,nr,Y) ((nc+cnt rows nr:Nat):Int) (bA,nr,bc_) (M,nc+cnt rows nr,P) (nc:Int) (eA,nr,ec)
       have dL:∀r∈zc3 rows,r.length=nc+cnt rows nr:=by have h:=cQ.o;rw[bU.o]at h;exact h
       refine⟨V,Y,l4,bA,bc_,M,P,eA,ec,rfl,⟨dv.o.tk t (by decide) (by decide) (by decide),dL,dx.o.tk t (by decide) (by decide),dz.o.tk t (by decide) (by decide),dA.o.tk t (by decide),by omega,by omega,?_,?_,?_,b3.o⟩,bsc (bsc (bsc (bsc (bsc (bsc ez.o)))))⟩
       ·intro r hr q hq;unfold zc3 at hr;obtain⟨i,hi,rfl⟩:=List.mem_map.1 hr;have bD:=List.mem_range.1 hi;rcases List.mem_append.1 hq with h | h
        ·exact(cW.o _ (List.mem_of_getElem? (zaO bD))).1 q h
        ·exact Nat.le_trans (zsi rows i q h) b3.o
       ·intro q hq;unfold zg8 at hq;obtain⟨p,G,rfl⟩:=List.mem_map.1 hq;exact(cW.o p G).2
       ·intro q hq;unfold zjD at hq;rcases List.mem_append.1 hq with h | h
        ·exact dD.o q h
        ·rw[List.eq_of_mem_replicate h];exact Nat.le_trans mw0 b3.o
