/- Contracts and lemmas: DuS. Conditions: as each says. -/
import Derived.Test.YtbhfhkcdfmmmiaaGreatDoorStdWZd
import Derived.Test.YtbhfhkcdfmmmiaaGreatDoorDuRZd
import Derived.Test.YtbhfhkcdfmmmiaaGreatDoorTb3Zd
import Derived.Test.YtbhfhkcdfmmmiaaGreatDoorTb5Zd
set_option linter.all false
set_option maxHeartbeats 2000000
set_option maxRecDepth 100000
namespace Go.Proofs.YtbhfhkcdfmmmiaaGreatDoor
open Go.RowKit Am
open Lib (hid)
attribute [local go_sem ↓] Go.wp_at_zero Go.wp_at_succ
theorem Pb.standardN(S:Nat)(hS:1≤S)(C:OA)(nc cc:Nat)(R:OA)(nr a:Nat)(cost:List Rat)(rows:List PRow)(N:Nat)(hN:nc+cnt rows nr=N)(w:World)(hc:VecS w 0 (C,nc,cc) cost)(hr:RowsS w 0 (R,nr,a) rows)(b:nc≤24)(d:nr≤20)(f:Rows nc rows)(c:Kinds rows)(zc:∀q∈cost,mw q≤S)(zr:∀p∈rows,(∀q∈p.coef,mw q≤S)∧mw p.rhs≤S) :
  Calls Tryz.prog 25 #[.agg #[(C,nc,cc),(R,nr,a)]] w fun e w'=>∃(rA:OA) (rc:Nat) (lA:List Value) (bA:OA) (bc_:Nat) (kA:OA) (kc:Nat) (eA:OA) (ec:Nat),
   e=.returned (.tuple #[.agg #[(rA,nr,rc),(N:Int),(bA,nr,bc_),(kA,N,kc),(nc:Int),(eA,nr,ec)],.nilIface]) ∧
   StdP w' rA rc lA bA bc_ kA kc eA ec nr N S (zc3 rows) (zg8 rows) (zjD cost rows) (zca nc rows nr)∧Below w.heap.size w w':=by
 subst hN;exact Pb.standard S hS C nc cc R nr a cost rows w hc hr b d f c zc zr
theorem zqy{w:World}{b:Nat}{cs:Array Value}{t:TypeId}(c:w.heap[b]? = some (.cells cs t (0,0)))(v0 v1 f g i:Value):TKeep t w (((((w.setCell ⟨b,0,none⟩ v0).setCell ⟨b,1,none⟩ v1).setCell ⟨b,2,none⟩ f).setCell ⟨b,3,none⟩ g).setCell ⟨b,4,none⟩ i):=fun k _ d=>by
 have a:k≠b:=fun e=>d cs (by rw[e];exact c)
 rw[Below.heap_setCell _ _ _ _ (by exact a),Below.heap_setCell _ _ _ _ (by exact a),Below.heap_setCell _ _ _ _ (by exact a),Below.heap_setCell _ _ _ _ (by exact a),Below.heap_setCell _ _ _ _ (by exact a)]
theorem zCv{m N:Nat}{A:List (List Rat)}{b c:List Rat}{may:List Bool}{cols:List Nat}(a:Basis m N A cols){k:Nat}(h:zbE N A b c may cols=.bad k):k<m:=by
 unfold zbE at h;have s:=zdk cols (za5 A b cols) (za5 A b cols).length;split at h
 ·cases h
 ·rename_i k' h1
  unfold zi5 at h1;rw[h1,(a.vals_ok b).2]at s;split at h
  ·injection h with h;subst h;exact s.1
  ·cases h
def zzb (w:World) (N nc nr:Nat) (cost:List Rat) (rows:List PRow) (r:RunOut) (e:Ending) (w':World):Prop :=
  Below w.heap.size w w' ∧
  ((r.err=true∧∃fb,e=.returned (.tuple #[.agg #[.int .i64 0,(),(),(),.int .i64 0],.iface 119 (.pointer (some ⟨fb,0,none⟩))])∧w'.heap[fb]? = some (.cells #[.string zve,(r.n:Int),.iface 64 (.int .i64 180)] 123 (0,0))) ∨
   (r.err=false∧∃(k:Nat) (D:OA) (cD:Nat),r.at_=some k∧e=.returned (.tuple #[.agg #[.int .i64 2,(),(D,nr,cD),(),(r.n:Int)],.nilIface])∧VecS w' w.heap.size (D,nr,cD) (scale (-1) (zbf (zc3 rows) r.cols k))) ∨
   (r.err=false∧r.at_=none∧∃(P:OA) (cP:Nat) (D:OA) (cD:Nat),e=.returned (.tuple #[.agg #[.int .i64 1,(P,nc,cP),(D,nr,cD),(),(r.n:Int)],.nilIface]) ∧
     VecS w' w.heap.size (P,nc,cP) ((zh1 N r.cols (za5 (zc3 rows) (zg8 rows) r.cols)).take nc)∧VecS w' w.heap.size (D,nr,cD) (zcl (zc3 rows) r.cols (zjD cost rows))))
namespace Du
theorem solve(S:Nat)(hS:1≤S)(C:OA)(nc cc:Nat)(R:OA)(nr o:Nat)(cost:List Rat)(rows:List PRow)(N:Nat)(hN:nc+cnt rows nr=N)(tA:OA)(tc X:Nat)(cols:List Nat)(m:Int)(w:World)(hc:VecS w 0 (C,nc,cc) cost)(hr:RowsS w 0 (R,nr,o) rows)(a:nc≤24)(aB:nr≤20)(aC:Rows nc rows)(aA:Kinds rows)(zc:∀q∈cost,mw q≤S)(zr:∀p∈rows,(∀q∈p.coef,mw q≤S)∧mw p.rhs≤S)
  (hi:IntsS w X (tA,nr,tc) cols) (hB:Basis nr N (zc3 rows) cols) (ax:zor nr S≤LIM) (aw:m≤9223372036854775807) (hR:zdi (zaC N (zc3 rows) cols (zjD cost rows)) (List.replicate N true)=none) :
  Calls Tryz.prog 7 #[.agg #[(C,nc,cc),(R,nr,o)],(tA,nr,tc),.int .i64 m] w (zzb w N nc nr cost rows (pivs (zbE N (zc3 rows) (zg8 rows) (zjD cost rows) (List.replicate N true)) m.toNat cols)):=by
 have a8:=hid aC;have aY:=hid aA;have al:=hid hS;have bi:=hid zc;have bk:=hid zr;have a3:=hid hN;have aS:=hid aw;have a6:=hid hR;have aR:=hid hB;have t:=hid ax;have a1:=hid a;have aj:=hid aB;have a0:=hid (show N≤64 by have:=zgO rows nr;omega);obtain⟨r,J⟩:∃r,r=pivs (zbE N (zc3 rows) (zg8 rows) (zjD cost rows) (List.replicate N true)) m.toNat cols:=⟨_,rfl⟩
 have a9:=hid J;have a2:=hid (show N=nc+cnt rows nr from hN.symm);have bb:=hid (show ∀k,r.err=false→r.at_=some k→zbE N (zc3 rows) (zg8 rows) (zjD cost rows) (List.replicate N true) r.cols=.bad k by
  intro k h1 h2;obtain⟨e1,_,_,e4,_⟩:=zoW (zbE N (zc3 rows) (zg8 rows) (zjD cost rows) (List.replicate N true)) m.toNat cols;rw[←J]at e1 e4;rw[e1,e4 h1,h2])
 rw[←J];clear aC aA hS zc zr hN aw hR hB ax J a aB;obtain⟨W,i⟩:∃W,((w.alloc (.cells #[(C,nc,cc),(R,nr,o)] 31)).alloc (.cells #[.int .i64 0,(),(),(),.int .i64 0] 37))=W:=⟨_,rfl⟩
 have an:=hid (show W.heap[w.heap.size]? = some (.cells #[(C,nc,cc),(R,nr,o)] 31 (0,0))by rw[←i];exact zak (zam (by simp)));have bl:=hid (show W.heap[w.heap.size+1]? = some (.cells #[.int .i64 0,(),(),(),.int .i64 0] 37 (0,0))by rw[←i];exact zam (by simp));have BB:=hid (show Below w.heap.size w W by rw[←i];exact(zae w _).alloc (by simp) _);have HC:=hid (show VecS W 0 (C,nc,cc) cost by rw[←i];exact((hc).alloc _).alloc _)
 have HR:=hid (show RowsS W 0 (R,nr,o) rows by rw[←i];exact((hr).alloc _).alloc _);have HI:=hid (show IntsS W X (tA,nr,tc) cols by rw[←i];exact((hi).alloc _).alloc _);obtain⟨bz,_,bB,_⟩:=bc2 an.out;clear hc hr hi;go_enter Tryz.func7,Tryz.ntmps7;go_wp2_with fail
 clear i;with_reducible refine(Pb.standardN S al.out C nc cc R nr o cost rows N a3.out _ HC.out HR.out a1.out aj.out a8.out aY.out bi.out bk.out).mono ?_
 rintro e w1 ⟨rA,rc,lA,bA,bc_,kA,kc,eA,ec,rfl,hst,a⟩;have bC:=hid (zad a an.out);have bw:=hid (zad a bl.out);have br:=hid (HI.out.below a);have bc:=hid (show StdP w1 rA rc lA bA bc_ kA kc eA ec nr N S (zc3 rows) (zg8 rows) (zjD cost rows) (zca nc rows nr)from hst);have aE:=hid (BB.out.trans ((a).mono BB.out.size));clear hst a;have z:=zae w1 (.cells #[(rA,nr,rc),(N:Int),(bA,nr,bc_),(kA,N,kc),(nc:Int),(eA,nr,ec)] 80);have bx:=hid (zad z bC.out)
 have bD:=hid (zad z bw.out);have ce:=hid (br.out.below z);have ca:=hid (bc.out.below z);have Z:=hid (aE.out.trans ((z).mono aE.out.size));have ao:=hid (zal w1 #[(rA,nr,rc),(N:Int),(bA,nr,bc_),(kA,N,kc),(nc:Int),(eA,nr,ec)] 80);obtain⟨bF,_,bG,_,bK,_,ac,_,cb,_,cd,_⟩:=bc6 ao.out;go_wp2_with fail
 have ah:=hid (show Below w.heap.size w (w1.alloc (.cells #[(rA,nr,rc),(N:Int),(bA,nr,bc_),(kA,N,kc),(nc:Int),(eA,nr,ec)] 80))from Z.out);refine(Tb.new rA rc lA bA bc_ kA kc eA ec nr N S nc (zc3 rows) (zg8 rows) (zjD cost rows) (zca nc rows nr) tA tc cols X _ ca.out ce.out aR.out t.out).mono ?_;rintro e w3 ⟨q,tA',tc',rfl,hT,a⟩;have HT:=hid hT;have ag:=hid a;have s3:=zab a ac;clear hT a;go_wp2_with fail
 refine zaS (S:=fun w'=>w'.cell? ⟨w1.heap.size,3,none⟩=some (kA,N,kc)) [] (h:=fun hHeld=>?_);refine zaw [0,1,2,3,4,5,7] ?_;repeat refine tkL (hS:=hHeld) (h:=?_)
 refine zao ?_;refine zaB 6 (h:=fun K d=>?_);go_simp
 (go_at_call 23;(with_reducible refine(Du.all N a0.out _).mono ?_);rintro e v1 ⟨MA,rfl,hm,a⟩;have HM:=hid hm;have U:=hid (show Below w3.heap.size w3 v1 from It.bdrew0' a);have be:=hid (HT.out.below U.out);have cj:=zab U.out s3;clear hm a)
 (try go_wp2_with fail)
 refine d.out _ _ kp fun hHeld=>?_
 clear d K;try simp only[Act.put,pu1,pu2,pu3,pu4,pu5,pu6]
 refine zaB 8 (h:=fun K d=>?_);go_simp
 (go_at_call 27;(with_reducible refine(Du.run be.out MA N _ HM.out t.out m aS.out a6.out).mono ?_);rintro e f ⟨ev,rfl,hev,hT2,hb2,hk2⟩;rw[←a9.out]at *;have aV:=hid hev;have l:=hid hT2;have j:=hid (show Below (w1.alloc (.cells #[(rA,nr,rc),(N:Int),(bA,nr,bc_),(kA,N,kc),(nc:Int),(eA,nr,ec)] 80)).heap.size (w1.alloc (.cells #[(rA,nr,rc),(N:Int),(bA,nr,bc_),(kA,N,kc),(nc:Int),(eA,nr,ec)] 80)) f from(ag.out.trans (U.out.mono ag.out.size)).trans hb2);have bp:=zab j.out ac;have ck:=zaa bp;clear hev hT2 hb2 hk2)
 (try go_wp2_with fail)
 refine d.out _ _ kp fun hHeld=>?_
 clear d K;try simp only[Act.put,pu1,pu2,pu3,pu4,pu5,pu6]
 refine zaw [9,10,11,12,13,14,15] ?_;repeat refine tkL (hS:=hHeld) (h:=?_)
 refine zao ?_;refine zaM (h:=?_);have bE:=hid (zad j.out bx.out);have M:=hid (zad j.out bD.out);have ad:=hid (zad j.out ao.out);have E:=hid (Z.out.trans ((j.out).mono Z.out.size));obtain⟨cp,cn,cq,co⟩:=bc2 bE.out;obtain⟨bQ,bH,cz,cs,bR,bI,cx,ct,bU,bJ,cy,cu,bZ,bP,cA,cv,b1,bL,cB,cw⟩:=bf5 M.out;obtain⟨cN,cC,cO,cD,cP,cE,cQ,cK,cR,cL,cS,cM⟩:=bc6 ad.out;have y:=hid l.out.basis;clear bz bB bF bG bK ac cb cd;have bn:nc≤N:=by have:=a2.out;omega
 obtain⟨ci,cl,cm,I⟩:=l.out;have aU:=hid I.bas.good.2.2;have V:=hid I.stdN.C;have bj:=hid I.std.zc;have ba:=hid (show 8*sB nr S S+8≤LIM by have h:=zos t.out;unfold pB at h;omega);clear I hHeld;have T:=hid (show Bel w f from Bel.mk (ah.out.trans (j.out.mono ah.out.size)));rcases aV.out with ⟨g,rfl⟩ | ⟨g,fb,rfl,ay⟩
 ·cases hat:r.at_ with
  | some k =>
   have A:zbh (some k)=(k:Int):=rfl;rw[A];have ch:(0:Int)≤(k:Int):=Int.natCast_nonneg _;have ai:=hid (zCv y.out (bb.out k g hat));have x:=hid g;have Q:=hid hat;clear g hat A;go_upto_region 10 with fail
   go_cut[54] (fun c Y=>c=true∧Y=f)
   case first =>
    go_wp2;go_meet;exact⟨by first | rfl | (simp;done) | (simp;omega),rfl⟩
   obtain⟨rfl,rfl⟩:=hcut;rename World=>f
   go_wp2_with fail
   with_reducible refine(Tb.weights l.out k ai.out t.out).mono ?_
   rintro e B ⟨D1,n1,c1,rfl,hv,a⟩;have aa:=hid (zad a M.out);have H:=hid (zad a ad.out);have P:=hid (l.out.below a);have O:=hid (T.out.below a);have ae:=hid (V.out.below a);have am:=hid (show VecS B f.heap.size (D1,n1,c1) (zbf (zc3 rows) r.cols k)from hv);have G:=hid (E.out.trans ((a).mono E.out.size));obtain⟨_,_,_,_,_,_,_,_,bX,_⟩:=bc6 H.out;clear hv a;obtain rfl:nr=n1:=by rw[am.out.len,(y.out.weights_ok k).2]
   go_wp2_with fail
   with_reducible refine(Rt.int (-1) (by decide) (by decide) _).mono ?_
   rintro e D ⟨g9,A6,m9,c6,D9,md9,cd9,rfl,hn9,a⟩;have F:=hid (zad a aa.out);have ab:=hid (zad a H.out);have bu:=hid (P.out.below a);have aQ:=hid (O.out.below a);have bs:=hid (ae.out.below a);have bv:=hid (am.out.below a);have a7:=hid (show RatS D g9 (A6,m9,c6) (D9,md9,cd9) (((-1:Int):Int):Rat)from hn9);have L:=hid (G.out.trans ((a).mono G.out.size));obtain⟨aK,aF,bM,_,aL,aG,bN,_,aM,aH,bO,_,aO,aI,bS,_,aP,aJ,bT,_⟩:=bf5 F.out;obtain⟨_,_,_,_,_,_,_,_,b5,_⟩:=bc6 ab.out;clear hn9 a
   have bh:=hid (aQ.out.b.size);go_wp2_with fail
   with_reducible refine(Vc.scaleS (sB nr S S) ba.out g9 A6 m9 c6 D9 md9 cd9 (((-1:Int):Int):Rat) D1 nr c1 (zbf (zc3 rows) r.cols k) f.heap.size _ bv.out a7.out (by have:=aj.out;omega) (ziO y.out aU.out al.out ai.out) (Nat.le_trans (show mw (((-1:Int):Int):Rat)≤1 by decide) (zma nr S S))).mono ?_
   rintro e v5 ⟨D2,n2,c2,rfl,hv,a⟩;have aN:=hid (zad a F.out);have u:=hid (show VecS v5 D.heap.size (D2,n2,c2) (scale (((-1:Int):Int):Rat) (zbf (zc3 rows) r.cols k))from hv);have b6:=hid (L.out.trans ((a).mono L.out.size));obtain⟨b3,bV,cF,_,b4,bW,cG,_,b7,bY,cH,_,b8,b0,cI,_,b9,b2,cJ,_⟩:=bf5 aN.out;clear hv a;obtain rfl:nr=n2:=by rw[u.out.len,zfH,(y.out.weights_ok k).2]
   go_wp2;refine bodyPost_ret (v:=.tuple #[.agg #[.int .i64 2,(),(D2,nr,c2),(),.int .i64 (r.n:Int)],.nilIface]) (by simp[results,Tryz.results7,go_sem,b3,bV,b4,bW,b7,bY,b8,b0,b9,b2]) rfl ?_;have s:=zqy aN.out (.int .i64 2) () (D2,nr,c2) () (.int .i64 (r.n:Int));refine⟨bsc (bsc (bsc (bsc (bsc b6.out)))),.inr (.inl ⟨x.out,k,D2,c2,Q.out,rfl,?_⟩)⟩
   have h:=(u.out.base (show w.heap.size≤D.heap.size from bh.out)).tk s (by decide) (by decide);exact h
  | none =>
   have A:zbh none = -1:=rfl;rw[A];have x:=hid g;have Q:=hid hat;clear g hat A;go_upto_region 10 with fail
   go_cut[54] (fun c Y=>c=false∧Y=f)
   case first =>
    go_wp2;go_meet;exact⟨by first | rfl | (simp;done) | (simp;omega),rfl⟩
   obtain⟨rfl,rfl⟩:=hcut;rename World=>f
   go_wp2_with fail
   with_reducible refine(Tb.duals l.out kA kc (zjD cost rows) 0 V.out bj.out t.out).mono ?_
   rintro e B ⟨D1,n1,c1,rfl,hv,a⟩;have aa:=hid (zad a M.out);have H:=hid (zad a ad.out);have P:=hid (l.out.below a);have O:=hid (T.out.below a);have ae:=hid (V.out.below a);have u:=hid (show VecS B f.heap.size (D1,n1,c1) (zcl (zc3 rows) r.cols (zjD cost rows))from hv);have G:=hid (E.out.trans ((a).mono E.out.size));obtain⟨_,_,_,_,_,_,_,_,bX,_⟩:=bc6 H.out;clear hv a;obtain rfl:nr=n1:=by rw[u.out.len];exact(y.out.duals_ok _).2.symm
   go_wp2_with fail
   have bf:=hid T.out.b.size;have bg:=hid (O.out.b.size);refine zaS (S:=fun w'=>w'.cell? ⟨w1.heap.size,4,none⟩=some (.int .i64 (nc:Int))) [8,9] (h:=fun hHeld=>?_);refine zaw [0,2,3,5,6] ?_;repeat refine tkL (hS:=hHeld) (h:=?_)
   refine zao ?_;refine zaB 1 (h:=fun K d=>?_);go_simp
   (go_at_call 32;(with_reducible refine(Tb.point P.out.drew).mono ?_);rintro e D ⟨P1,c9,rfl,hv9,a⟩;have F:=hid (zad a aa.out);have ab:=hid (zad a H.out);have bu:=hid (P.out.drew.below a);have aQ:=hid (O.out.drew.below a);have bs:=hid (ae.out.drew.below a);have bt:=hid (u.out.drew.below a);have ak:=hid (show VecS D B.heap.size (P1,N,c9) (zh1 N r.cols (za5 (zc3 rows) (zg8 rows) r.cols))from hv9);have L:=hid (G.out.trans ((It.bdrew0' a).mono G.out.size));obtain⟨aK,aF,bM,_,aL,aG,bN,_,aM,aH,bO,_,aO,aI,bS,_,aP,aJ,bT,_⟩:=bf5 F.out;obtain⟨_,_,_,_,_,_,_,_,b5,_⟩:=bc6 ab.out;have cf:=ak.out.form.2.1;have cg:nc≤c9:=(by omega);have a4:=hid (ak.out.cut nc bn);clear hv9 a)
   (try go_wp2_with fail)
   refine d.out _ _ kp fun hHeld=>?_
   clear d K;try simp only[Act.put,pu1,pu2,pu3,pu4,pu5,pu6]
   refine zaw [4,7] ?_;repeat refine tkL (hS:=hHeld) (h:=?_)
   refine zao ?_;refine zay 8 (h:=fun K d=>?_);go_simp;refine d.out _ _ ?_;clear d K;try simp only[Act.put,pu1,pu2,pu3,pu4,pu5,pu6]
   refine zay 9 (h:=fun K d=>?_);go_simp;refine d.out _ _ ?_;clear d K;try simp only[Act.put,pu1,pu2,pu3,pu4,pu5,pu6]
   refine zaM (h:=?_);go_wp2;refine bodyPost_ret (v:=.tuple #[.agg #[.int .i64 1,(P1,nc,c9),(D1,nr,c1),(),.int .i64 (r.n:Int)],.nilIface]) (by simp[results,Tryz.results7,go_sem,aK,aF,aL,aG,aM,aH,aO,aI,aP,aJ]) rfl ?_;have s:=zqy F.out (.int .i64 1) (P1,nc,c9) (D1,nr,c1) () (.int .i64 (r.n:Int));refine⟨bsc (bsc (bsc (bsc (bsc L.out)))),.inr (.inr ⟨x.out,Q.out,P1,c9,D1,c1,rfl,?_,?_⟩)⟩
   ·exact(a4.out.base (show w.heap.size≤B.heap.size from bg.out)).tk s (by decide) (by decide)
   ·exact(bt.out.base (show w.heap.size≤f.heap.size from bf.out)).tk s (by decide) (by decide)
 ·have x:=hid g;have aW:=hid ay;clear g ay;go_wp2;refine bodyPost_ret (v:=.tuple #[.agg #[.int .i64 0,(),(),(),.int .i64 0],.iface 119 (.pointer (some ⟨fb,0,none⟩))]) (by simp[results,Tryz.results7,go_sem,bQ,bH,bR,bI,bU,bJ,bZ,bP,b1,bL]) rfl ?_;have s:=zqy M.out (.int .i64 0) () () () (.int .i64 0);exact⟨bsc (bsc (bsc (bsc (bsc E.out)))),.inl ⟨x.out,fb,rfl,s.blk aW.out (by decide)⟩⟩
