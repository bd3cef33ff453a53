/- Contracts and lemmas: RgR. Conditions: as each says. -/
import Derived.Test.YtbhfhkcdfmmmiaaGreatRgEZj
set_option linter.all false
set_option maxHeartbeats 4000000
set_option maxRecDepth 100000
namespace Go.Proofs.YtbhfhkcdfmmmiaaGreat
open Go.RowKit Am Go.Proofs.Tryz
open Pr (psolve)
open Pb (zPu may)
attribute [local go_sem ↓] Go.wp_at_zero Go.wp_at_succ
variable {b:Nat}{w:World}
def yT1 (w:World) (B:Nat) (o:RhsO) (e:Ending) (w':World):Prop:=match o with
  | .spent=>Below w w w'∧∃ev,e=.returned (.tuple #[.agg #[false,(),(),false,(),(),false,false],ev])∧Spent w' B ev
  | .none=>Below w w w'∧e=.returned (.tuple #[.agg #[false,(),(),false,(),(),false,false],.iface 73 (.int .i64 210)])
  | .range r=>yJX w B r e w'
theorem rk3{cs:Array Value}(a:w.heap[b]? = some (.cells cs 41 (0,0)))(i j k:Nat)(u x y:Value):zff w (((w.setCell ⟨b,i,none⟩ u).setCell ⟨b,j,none⟩ x).setCell ⟨b,k,none⟩ y):=fun n _ c=>by
 have e:n≠b:=by rintro rfl;exact c _ a
 rw[Zk _ _ _ _ (by exact e),Zk _ _ _ _ (by exact e),Zk _ _ _ _ (by exact e)]
theorem VecS.blkOf{H n c:Nat}{qs:List Rat}(h:VecS w H (b,n,c) qs):∃cs,w.heap[b]? = some (.cells cs 41 (0,0)):=by
 obtain⟨l,_,_,d⟩:=h.row;rcases d.2 with ⟨a,_⟩ | ⟨g,cap,cur,a,_,e,_⟩
 ·cases a
 ·injection a with e1;injection e1 with e1;injection e1 with e1;subst e1;exact⟨_,e⟩
def yXl (wr wy:World) (U:List (Nat × Int)) (rows:List PRow) (k i0:Nat) (F:OA) (cF:Nat) (g s d:Value):Prop :=
  wy.heap[wr.heap.size]? = some (.cells #[(F,i0,cF),.int .i64 3,g,s,d] 43 (0,0))∧VecS wy wr (F,i0,cF) (yJZ U rows i0)∧VecS wy wr (wr.heap.size+1,U.length,U.length) (yJY U k i0) ∧
  (∀g,(Value.slice F i0 cF).ownBlock=some g→g≠wr.heap.size+1)∧Below wr wr wy
namespace Ra
theorem rhs(S:Nat)(C:OA)(nC M:Nat)(R:OA)(m I:Nat)(cost:List Rat)(rows:List PRow)(w:World)(hc:VecS w 0 (C,nC,M) cost)(hr:RowsS w 0 (R,m,I) rows)(hg:GoodS S nC m cost rows)(k B S2:Nat)(hk:k<m)(f:B≤1000000)(gZ:∀cols nn,zSA (nC+cnt rows m) m (zc3 rows) (zg8 rows) (zjD cost rows) B=.best cols nn→GoodS S2 (yLD rows).length (nC+1) (yJH (yLD rows) k) (yJL (yLD rows) rows cost++[yJI (yLD rows) rows (dot cost (yJA nC rows cols))])) :
  Calls prog 28 #[.agg #[(C,nC,M),(R,m,I)],(k:Int),(B:Int)] w (yT1 w B (yWU nC cost rows k B)):=by
 have aC:=un hc.len;have gL:=un hr.len;have HG:=un hg;have gG:=un f;have ki:=un gZ;have bZ:=hg.hr;have kF:=hg.hc;have kj:=un hg.sb;have km:=un (show Sm cost from fun q hq=>Zc (hg.sc q hq) hg.hS);have kh:=un (show Rows nC rows from fun p hp=>⟨(hg.rw_ p hp).1,fun q hq=>Zc ((hg.rw_ p hp).2.1 q hq) hg.hS,Zc (hg.rw_ p hp).2.2 hg.hS⟩);have HU:=un (show wTo rows (List.replicate m false) m=yLD rows by unfold yLD;rw[←hr.len])
 have hU:=yJy rows (List.replicate m false) m;have bf:=un (yJB rows (List.replicate m false) m);have bg:=un (yJz rows (List.replicate m false) m);rw[HU.o]at hU bf bg;have kb:=un (show yWU nC cost rows k B=yYb nC cost rows k B (zSA (nC+cnt rows m) m (zc3 rows) (zg8 rows) (zjD cost rows) B)by unfold yWU yJw;rw[←hr.len])
 have j9:=un (show ∀cols,yJA nC rows cols=(zh1 (nC+cnt rows m+m) cols (za5 (zt0 (zc3 rows) (zg8 rows)) (zwh (zg8 rows)) cols)).take nC from fun cols=>by unfold yJA;rw[←hr.len]);rw[kb.o];clear hg f gZ;have qi:¬(k:Int)<0:=by omega
 have ql:¬m≤k:=by omega
 obtain⟨W,hW⟩:∃W,((w.alloc (.cells #[(C,nC,M),(R,m,I)] 31)).alloc (.cells #[false,(),(),false,(),(),false,false] 62))=W:=⟨_,rfl⟩
 have gN:=un (show W.heap[w.heap.size]? = some (.cells #[(C,nC,M),(R,m,I)] 31 (0,0))by rw[←hW];exact zak (zam (by simp)));have gO:=un (show W.heap[w.heap.size+1]? = some (.cells #[false,(),(),false,(),(),false,false] 62 (0,0))by rw[←hW];exact zam (by simp));have BB:=un (show Below w w W by rw[←hW];exact(zae w _).alloc (by simp) _)
 have HC:=un (show VecS W 0 (C,nC,M) cost by rw[←hW];exact((hc).alloc _).alloc _);have HR:=un (show RowsS W 0 (R,m,I) rows by rw[←hW];exact((hr).alloc _).alloc _);obtain⟨nk,_,nl,_⟩:=bc2 gN.o;clear hc hr;go_enter func28,ntmps28;go_wp2_with fail
 clear hW;with_reducible refine(may C nC M R m I cost rows _ HC.o HR.o kF bZ kh.o HG.o.kd).mono ?_
 rintro e w1 ⟨rfl,d⟩;have jd:=un (zad d gN.o);have jb:=un (zad d gO.o);have jV:=un (HC.o.below d);have jH:=un (HR.o.below d);have jc:=un (BB.o.trans ((d).mono BB.o.size));obtain⟨ni,_,nj,_⟩:=bc2 jd.o;clear d;go_wp2_with fail
 clear nk nl;with_reducible refine(psolve S C nC M R m I cost rows _ _ B _ jV.o jH.o HG.o rfl rfl gG.o).mono ?_
 rintro e w2 ⟨d,h⟩;generalize hso:zSA (nC+cnt rows m) m (zc3 rows) (zg8 rows) (zjD cost rows) B=so at *
 have bN:=un (zad d jd.o);have bO:=un (zad d jb.o);have b8:=un (jV.o.below d);have da:=un (jH.o.below d);have az:=un (jc.o.trans ((d).mono jc.o.size));clear d;cases so with
 | spent nn =>
  obtain⟨ev,rfl,fb,num,rfl,dG,bk⟩:=h;have u:=zae w2 (.cells #[.int .i64 0,(),(),(),.int .i64 0] 76);have aA:=un (zad u bN.o);have aa:=un (zad u bO.o);have bx:=un (b8.o.below u);have bv:=un (da.o.below u);have aB:=un (az.o.trans ((u).mono az.o.size));obtain⟨cw,_,cx,_⟩:=bc2 aA.o;obtain⟨aU,aO,cL,_,aV,aP,cJ,_,aW,aR,cK,_,aX,aT,cM,_,aY,aS,cN,_,a0,aZ,cU,_,aM,aK,cn,_,aN,aL,cr,_⟩:=bf8 aa.o
  have KR:=un (zal w2 #[.int .i64 0,(),(),(),.int .i64 0] 76);obtain⟨cX,_,cZ,_,c0,_,c5,_,c6,_⟩:=bc5 KR.o;go_wp2;refine Zd (v:=.tuple #[.agg #[false,(),(),false,(),(),false,false],.iface 224 (.pointer (some ⟨fb,0,none⟩))]) (by simp[results,results28,go_sem,aU,aO,aV,aP,aW,aR,aX,aT,aY,aS,a0,aZ,aM,aK,aN,aL]) rfl ?_
  have z:=zYl aa.o false () () false () () false false;exact⟨bsc (bsc (bsc (bsc (bsc (bsc (bsc (bsc aB.o))))))),_,rfl,fb,num,rfl,dG,z.blk (zak bk) (by decide)⟩
 | none cols nn =>
  obtain⟨Y,cY,rfl,hY⟩:=h;have u:=zae w2 (.cells #[.int .i64 2,(),(Y,m,cY),(),.int .i64 (nn:Int)] 76);have aA:=un (zad u bN.o);have aa:=un (zad u bO.o);have bx:=un (b8.o.below u);have bv:=un (da.o.below u);have aB:=un (az.o.trans ((u).mono az.o.size));obtain⟨cw,_,cx,_⟩:=bc2 aA.o;obtain⟨aU,aO,cL,_,aV,aP,cJ,_,aW,aR,cK,_,aX,aT,cM,_,aY,aS,cN,_,a0,aZ,cU,_,aM,aK,cn,_,aN,aL,cr,_⟩:=bf8 aa.o
  have KR:=un (zal w2 #[.int .i64 2,(),(Y,m,cY),(),.int .i64 (nn:Int)] 76);obtain⟨cX,_,cZ,_,c0,_,c5,_,c6,_⟩:=bc5 KR.o;go_wp2;refine Zd (v:=.tuple #[.agg #[false,(),(),false,(),(),false,false],.iface 73 (.int .i64 210)]) (by simp[results,results28,go_sem,aU,aO,aV,aP,aW,aR,aX,aT,aY,aS,a0,aZ,aM,aK,aN,aL]) rfl ?_
  have z:=zYl aa.o false () () false () () false false;exact⟨bsc (bsc (bsc (bsc (bsc (bsc (bsc (bsc aB.o))))))),rfl⟩
 | best cols nn =>
  obtain⟨P,cP,Y,cY,rfl,hP,hY⟩:=h;have u:=zae w2 (.cells #[.int .i64 1,(P,nC,cP),(Y,m,cY),(),.int .i64 (nn:Int)] 76);have aA:=un (zad u bN.o);have aa:=un (zad u bO.o);have bx:=un (b8.o.below u);have bv:=un (da.o.below u);have aB:=un (az.o.trans ((u).mono az.o.size));obtain⟨cw,_,cx,_⟩:=bc2 aA.o;obtain⟨aU,aO,cL,_,aV,aP,cJ,_,aW,aR,cK,_,aX,aT,cM,_,aY,aS,cN,_,a0,aZ,cU,_,aM,aK,cn,_,aN,aL,cr,_⟩:=bf8 aa.o
  have KR:=un (zal w2 #[.int .i64 1,(P,nC,cP),(Y,m,cY),(),.int .i64 (nn:Int)] 76);obtain⟨cX,_,cZ,_,c0,_,c5,_,c6,_⟩:=bc5 KR.o;have ke:=un (fun q hq=>Zc (yLR (cols:=cols) (n:=nn) (B:=B) HG.o aC.o.symm gL.o.symm hso q hq) kj.o);have jY:=un hP.len;have gJ:=un (ki.o cols nn rfl);generalize hof:yJF (yLD rows).length (yJH (yLD rows) k) (yJL (yLD rows) rows cost++[yJI (yLD rows) rows (dot cost (yJA nC rows cols))]) B=o;have df:=un hof
  rw[j9.o,yMU]at hof gJ;have ka:=un hof;clear hof;have kc:=un ((hP.base (Zb _)).alloc (.cells #[.int .i64 1,(P,nC,cP),(Y,m,cY),(),.int .i64 (nn:Int)] 76));clear hP hY;generalize (zh1 (nC+cnt rows m+m) cols (za5 (zt0 (zc3 rows) (zg8 rows)) (zwh (zg8 rows)) cols)).take nC=pt at *
  go_wp2_with fail
  with_reducible refine(zPu C nC M R m I cost rows P nC cP pt _ bx.o bv.o kc.o (by rw[←aC.o];exact jY.o) (by omega) km.o ke.o).mono ?_
  rintro e w3 ⟨g9,A9,m9,c9,D9,md9,cd9,rfl,hn,d⟩;have je:=un (zad d aA.o);have jf:=un (zad d aa.o);have oV:=un (zad d KR.o);have lY:=un (bx.o.below d);have pO:=un (bv.o.below d);have HV:=un (show RatS w3 g9 (A9,m9,c9) (D9,md9,cd9) (dot cost pt)from hn);have ji:=un (aB.o.trans ((d).mono aB.o.size));obtain⟨_,_,_,_,_,_,_,_,_,_,_,_,_,_,_,_,_,_,_,_,_,_,_,_,_,ms,_⟩:=bf8 jf.o
  clear hn d;generalize dot cost pt=vv at *
  have a8:=zae w3 (.cells #[g9,(A9,m9,c9),(D9,md9,cd9)] 41);have jg:=un (zad a8 je.o);have jh:=un (zad a8 jf.o);have mb:=un (lY.o.below a8);have b7:=un (pO.o.below a8);have pC:=un (HV.o.below a8);have jk:=un (ji.o.trans ((a8).mono ji.o.size));obtain⟨a9,_,bc,_⟩:=bc2 jg.o;obtain⟨_,_,_,_,_,_,_,_,_,_,_,_,_,_,_,_,_,_,_,_,_,_,_,_,_,_,_,_,_,_,nc,_⟩:=bf8 jh.o;have KV:=un (zal w3 #[g9,(A9,m9,c9),(D9,md9,cd9)] 41)
  clear ni nj cw cx aU aO cL aV aP cJ aW aR cK aX aT cM aY aS cN a0 aZ cU aM aK cn aN aL cr cX cZ c0 c5 c6 ms
  go_upto_region 12 with fail
  generalize hwV:(w3.alloc (.cells #[g9,(A9,m9,c9),(D9,md9,cd9)] 41))=V at *
  clear hwV;generalize hwa:yLD rows=U at *
  have dp:=un hwa;clear hwa;go_cut[13] (fun q wz=>∃(bw:Nat) (A:OA) (c:Nat) (B:OA) (c':Nat),q=.pointer (some ⟨bw,0,none⟩)∧wz.heap[bw]? = some (.cells #[(A,U.length,c),(B,U.length,c')] 136 (0,0))∧WorS wz A U.length c B c' m U∧Below V V wz)
  case first=>as_aux_lemma =>
   refine zaS (S:=fun w'=>w'.cell? ⟨w,0,none⟩=some (C,nC,M)∧w'.cell? ⟨w,1,none⟩=some (R,m,I)) [7] (h:=fun hHeld=>?_);refine zaw [0,1,2,3] ?_;repeat refine tkL (hS:=hHeld) (h:=?_)
   refine zao ?_;refine zme (i:=4) (j:=6) rfl rfl (by kernel_rfl) (fun K r=>?_) (fun K r=>?_)
   ·skip
    (refine yKe rfl _ _ rfl m _ rfl rfl rfl (by omega) ?_;intro u1 ho d;have t:Below V V u1:=It.bdrew0' d;have bS:=un (show BoolsS u1 0 (V.heap.size,m,m) (List.replicate m false)from(by simpa using ho.base (Zb _)));have L:=un t;have s0:=zab t a9;have s1:=zab t bc;clear ho d t)
    refine shutOn r fun hHeld=>?_
    clear r K;refine zme (i:=5) (j:=6) rfl rfl (by kernel_rfl) (fun K r=>?_) (fun K r=>?_)
    ·skip
     go_simp
     (go_at_call 66;(with_reducible refine(yLE C nC M R m I rows _ m (List.replicate m false) _ (b7.o.below L.o) bS.o bZ HG.o.kd).mono ?_);rw[HU.o];rintro e u2 ⟨A,c,B,c',rfl,ha,hb2,d⟩;have t:Below V V u2:=L.o.trans (d.mono L.o.size);have H:=un (WorS.mk ha hb2 bf.o bg.o);have ad:=un t;have t0:=zab t a9;have t1:=zab t bc;clear ha hb2 d t)
     (try go_wp2_with fail)
     refine shutOn r fun hHeld=>?_
     clear r K;refine zaB 6 (h:=fun K r=>?_);go_simp;refine shutOn r fun hHeld=>?_
     clear r K;refine zay 7 (h:=fun K r=>?_);go_simp;refine shutOff r ?_;clear r K;refine zaM (h:=?_);go_wp2;go_meet
     case rel=>exact⟨u2.heap.size,A,c,B,c',rfl,zal _ _ _,H.o.alloc _,ad.o.alloc ad.o.size _⟩
    ·skip
     go_simp;refine shutOn r fun hHeld=>?_
     clear r K;refine zaB 5 (h:=fun K r=>?_);go_simp
     (go_at_call 66;(with_reducible refine(yLE C nC M R m I rows _ m (List.replicate m false) _ ((b7.o.below L.o).alloc _) (bS.o.alloc _) bZ HG.o.kd).mono ?_);rw[HU.o];rintro e u2 ⟨A,c,B,c',rfl,ha,hb2,d⟩;have t:Below V V u2:=(Zo L.o L.o.size (.cells #[(),()] 136)).trans (d.mono (Zo L.o L.o.size (.cells #[(),()] 136)).size);have H:=un (WorS.mk ha hb2 bf.o bg.o);have ad:=un t;have t0:=zab t a9;have t1:=zab t bc;have ap:=un (zad d (zal u1 #[(),()] 136));obtain⟨o0,_,hy,_,o1,_,of1,_⟩:=bf2 ap.o;clear ha hb2 d t)
     (try go_wp2_with fail)
     refine shutOn r fun hHeld=>?_
     clear r K;refine zay 7 (h:=fun K r=>?_);go_simp;refine shutOff r ?_;clear r K;refine zaM (h:=?_);go_wp2;go_meet;have z:TKeep 136 u2 (u2.setCell ⟨u1,0,none⟩ (A,U.length,c)):=TKeep.set ap.o _;have k2:TKeep 136 _ ((u2.setCell ⟨u1,0,none⟩ (A,U.length,c)).setCell ⟨u1,1,none⟩ (B,U.length,c')):=TKeep.set (zar _ ap.o) _
     case rel=>exact⟨u1.heap.size,A,c,B,c',rfl,zar _ (zar _ ap.o),⟨(H.o.row.tk z (by decide)).tk k2 (by decide),(H.o.sg.tk z (by decide)).tk k2 (by decide),H.o.lt,H.o.one⟩,bsc (p:=⟨u1,1,none⟩) (bsc (p:=⟨u1,0,none⟩) ad.o L.o.size) L.o.size⟩
   ·skip
    go_simp;refine shutOn r fun hHeld=>?_
    clear r K;refine zaB 4 (h:=fun K r=>?_)
    (refine yKe rfl _ _ rfl m _ rfl rfl rfl (by omega) ?_;intro u1 ho d;have t:Below V V u1:=((zap V 1).trans ((zae _ _).mono (Za _))).trans (d.mono (by simp));have bS:=un (show BoolsS u1 0 (V.heap.size+1,m,m) (List.replicate m false)from(by simpa using ho.base (Zb _)));have L:=un t;have s0:=zab t a9;have s1:=zab t bc;have ks:=un (show u1.heap[V.heap.size]? = some (.cells #[(),()] 136 (0,0))from zad d (zal V.drew #[(),()] 136));clear ho d t)
    refine shutOn r fun hHeld=>?_
    clear r K;refine zaB 5 (h:=fun K r=>?_);go_simp
    (go_at_call 66;(with_reducible refine(yLE C nC M R m I rows _ m (List.replicate m false) _ (b7.o.below L.o) bS.o bZ HG.o.kd).mono ?_);rw[HU.o];rintro e u2 ⟨A,c,B,c',rfl,ha,hb2,d⟩;have t:Below V V u2:=L.o.trans (d.mono L.o.size);have H:=un (WorS.mk ha hb2 bf.o bg.o);have ad:=un t;have t0:=zab t a9;have t1:=zab t bc;have ap:=un (zad d ks.o);obtain⟨o0,_,hy,_,o1,_,of1,_⟩:=bf2 ap.o;clear ha hb2 d t)
    (try go_wp2_with fail)
    refine shutOn r fun hHeld=>?_
    clear r K;refine zay 7 (h:=fun K r=>?_);go_simp;refine shutOff r ?_;clear r K;refine zaM (h:=?_);go_wp2;go_meet;have z:TKeep 136 u2 (u2.setCell ⟨V,0,none⟩ (A,U.length,c)):=TKeep.set ap.o _;have k2:TKeep 136 _ ((u2.setCell ⟨V,0,none⟩ (A,U.length,c)).setCell ⟨V,1,none⟩ (B,U.length,c')):=TKeep.set (zar _ ap.o) _
    case rel=>exact⟨V.heap.size,A,c,B,c',rfl,zar _ (zar _ ap.o),⟨(H.o.row.tk z (by decide)).tk k2 (by decide),(H.o.sg.tk z (by decide)).tk k2 (by decide),H.o.lt,H.o.one⟩,bsc (p:=⟨V,1,none⟩) (bsc (p:=⟨V,0,none⟩) ad.o (Za _)) (Za _)⟩
  case rest =>
   rename World=>wz
   obtain⟨bw,A,c,B',c',rfl,hO,g0,f⟩:=hcut;have bV:=un hO;have gE:=un (show 4*(S+1)+8≤LIM by rw[zaP];have:=HG.o.hS;omega);have cv:=un (zad f jg.o);have bP:=un (zad f jh.o);have cG:=un (zad f KV.o);have bz:=un (mb.o.below f);have eB:=un (b7.o.below f);have dR:=un (pC.o.below f);have H:=un (show WorS wz A U.length c B' c' m U from g0);have bd:=un (jk.o.trans ((f).mono jk.o.size));obtain⟨jn,jm,_⟩:=bc2 cv.o
   have p6:=(ZI.1 hO).1;have p7:=(ZI.1 bP.o).1;clear hO g0 f;clear a9 bc nc;go_wp2_with fail
   go_loopw [14,71] (fun rv i wr=>∃(j:Nat) (E:OA) (cE:Nat) (l:List RR),i=.int .i64 j∧rv=(E,j,cE)∧j≤nC∧RowsL wr wz.heap.size (E,j,cE) l ((yJL U rows cost).take j)∧Below wz.heap.size wz wr)
    (fun _ i _=>nC-(intOf i).toNat)
   case atStart=>exact⟨0,none,0,[],rfl,rfl,Zb _,RowsL.nil _ _,Zg _ _⟩
   case round =>
    obtain⟨j,E,cE,l,rfl,rfl,hj,hl,f⟩:=hrel;by_cases bm:j<nC
    ·obtain⟨X,rfl,_,p2⟩:=bz.o.has (by omega);have ko:=un (yMY (U:=U) (rows:=rows) (show j<cost.length by rw[←aC.o];exact bm));have di:=un (show((yJL U rows cost).take j).length=j by rw[Zn,yKO,←aC.o];omega);obtain⟨ga,Aa,ma,ca,Da,an,ag,y0,y1,y2,gY⟩:=bz.o.at_ (show cost[j]? = some (el cost j)from zaH (by rw[←aC.o];exact bm));generalize el cost j=q at *
     have aQ:=un (zad f cv.o);have a3:=un (zad f bP.o);have a4:=un (zad f cG.o);have aI:=un (zad f bV.o);have ay:=un (eB.o.below f);have bM:=un (dR.o.below f);have ao:=un (H.o.below f);have HW:=un (show Bel wz wr from Bel.mk f);have HQ:=un (show RatS wr ga (Aa,ma,ca) (Da,an,ag) q from(gY.below f));have HL:=un (show RowsL wr wz.heap.size (E,j,cE) l ((yJL U rows cost).take j)from hl)
     have ar:=un (bd.o.trans ((f).mono bd.o.size));obtain⟨f7,_,f8,f6⟩:=bc2 aQ.o;obtain⟨ek,_,em,_,en,_⟩:=bc3 a4.o;obtain⟨cd,fy,fx,fA⟩:=bc2 aI.o;have pK:wr.cell? ⟨X,j*3,none⟩=some (.bool ga):=zab f y0;have kW:=zaa pK;have lR:wr.cell? ⟨X,j*3+1,none⟩=some (Aa,ma,ca):=zab f y1;have k0:=zaa lR;have lS:wr.cell? ⟨X,j*3+2,none⟩=some (Da,an,ag):=zab f y2
     have k8:=zaa lS;clear hl f y0 y1 y2 gY;clear jn jm;have qf:(0:Int)≤(j:Int):=Zf _;have qg:(j:Int)<(nC:Int):=by omega
     go_upto_region 17 with fail
     refine za2 (S:=fun w'=>w'.cell? ⟨w,0,none⟩=some (X,nC,M)∧w'.cell? ⟨w,1,none⟩=some (R,m,I)∧w'.cell? ⟨bw,0,none⟩=some (A,U.length,c)∧w'.cell? ⟨bw,1,none⟩=some (B',U.length,c')∧w'.cell? ⟨X,j*3,none⟩=some (.bool ga)∧w'.cell? ⟨X,j*3+1,none⟩=some (Aa,ma,ca)∧w'.cell? ⟨X,j*3+2,none⟩=some (Da,an,ag)) 13 (h:=fun hHeld=>?_);refine zaw [0,1,2,3,4,5,6,7,8] ?_;repeat refine tkE (hS:=hHeld) (h:=?_)
     refine zao ?_;refine zaN 9 (h:=fun K r=>?_);go_simp
     (go_at_call 67;(with_reducible refine(column S gE.o A U.length c B' c' U (some ⟨X,0,none⟩) nC M R m I rows j none 0 0 [] _ ao.o.drew ay.o.drew (VecS.nil _ _) bm HG.o.sh.co (fun p hp=>(HG.o.rw_ p hp).2.1) (by omega) (by omega) (by omega)).mono ?_);rintro e v1 ⟨D3,d3,rfl,hv,d⟩;have f9:=un (zad d aQ.o);have fC:=un (zad d aI.o);have l9:=un (ay.o.drew.below d);have md:=un (bM.o.drew.below d);have lg:=un (ao.o.drew.below d);have im:=un (HW.o.drew.below d);have lH:=un (HQ.o.drew.below d);have hR:=un (HL.o.drew.below d);have HD:=un (show VecS v1 0 (D3,U.length,d3) (yJC U rows j)from(by simpa using hv.base (Zb _)));obtain⟨c3,_,c4,gc⟩:=bc2 f9.o;obtain⟨ce,fz,cf,fB⟩:=bc2 fC.o;have jU:=zab d kW;have ik:=zab d k0;have il:=zab d k8;clear hv d)
     (try go_wp2_with fail)
     refine shutOn r fun hHeld=>?_
     clear r K;refine zaw [10] ?_;repeat refine tkE (hS:=hHeld) (h:=?_)
     refine zao ?_;refine zaN 11 (h:=fun K r=>?_);go_simp;refine shutOn r fun hHeld=>?_
     clear r K;refine zaN 12 (h:=fun K r=>?_)
     ((refine zKn (by rfl) _ _ (by rfl) (by rfl) (hR.o.alloc _) (by rfl) (zal _ _ _) ⟨HD.o.alloc _,rfl,lH.o.alloc _⟩ (n:=j) (p:=⟨yJC U rows j,1,q⟩) di.o (by omega) (by have:=im.o.b.size;simp;omega) ?_);intro T Z v9 bi aG G;have dh:=un bi;have a5:=un ((im.o.alloc _).b.trans G);have t0:=zKh G (show w.heap.size<wz.heap.size by omega) (cell_al (ob:=.cells #[(D3,U.length,d3),.int .i64 1,ga,(Aa,ma,ca),(Da,an,ag)] 43) c3);have t1:=zKh G (show w.heap.size<wz.heap.size by omega) (cell_al (ob:=.cells #[(D3,U.length,d3),.int .i64 1,ga,(Aa,ma,ca),(Da,an,ag)] 43) c4);have t2:=zKh G (show bw<wz.heap.size by omega) (cell_al (ob:=.cells #[(D3,U.length,d3),.int .i64 1,ga,(Aa,ma,ca),(Da,an,ag)] 43) ce);have t3:=zKh G (show bw<wz.heap.size by omega) (cell_al (ob:=.cells #[(D3,U.length,d3),.int .i64 1,ga,(Aa,ma,ca),(Da,an,ag)] 43) cf);have t4:=zKh G (show X<wz.heap.size by omega) (cell_al (ob:=.cells #[(D3,U.length,d3),.int .i64 1,ga,(Aa,ma,ca),(Da,an,ag)] 43) jU);have t5:=zKh G (show X<wz.heap.size by omega) (cell_al (ob:=.cells #[(D3,U.length,d3),.int .i64 1,ga,(Aa,ma,ca),(Da,an,ag)] 43) ik);have t6:=zKh G (show X<wz.heap.size by omega) (cell_al (ob:=.cells #[(D3,U.length,d3),.int .i64 1,ga,(Aa,ma,ca),(Da,an,ag)] 43) il);clear bi aG G)
     refine shutOn r fun hHeld=>?_
     clear r K;refine zba (h:=fun K r=>?_);go_simp;refine shutOff r ?_;clear r K;refine za1 (h:=?_)
     all_goals
      go_wp2;go_roundw
      case rel=>exact⟨j+1,T,Z,_,by go_num,rfl,by omega,by rw[ko.o];exact dh.o,a5.o⟩
      case measure=>simp[intOf];omega
    ·obtain rfl:j=nC:=by omega
     have kn:=un (show(yJL U rows cost).take j=yJL U rows cost from ZH (by rw[yKO,←aC.o];exact Za _));rw[kn.o]at hl;have aQ:=un (zad f cv.o);have a3:=un (zad f bP.o);have a4:=un (zad f cG.o);have aI:=un (zad f bV.o);have ay:=un (eB.o.below f);have bM:=un (dR.o.below f);have ao:=un (H.o.below f);have HL:=un (show RowsL wr wz.heap.size (E,j,cE) l (yJL U rows cost)from hl)
     have ar:=un (bd.o.trans ((f).mono bd.o.size));obtain⟨f7,_,f8,f6⟩:=bc2 aQ.o;obtain⟨ek,_,em,_,en,_⟩:=bc3 a4.o;obtain⟨cd,fy,fx,fA⟩:=bc2 aI.o;have p5:=f.size;have gH:=un f;clear hl f;clear jn jm;go_upto_region 20 with fail
     have ak:=zae wr (.cells #[(),.int .i64 3,g9,(A9,m9,c9),(D9,md9,cd9)] 43);have f9:=un (zad ak aQ.o);have fC:=un (zad ak aI.o);have l9:=un (ay.o.below ak);have md:=un (bM.o.below ak);have lg:=un (ao.o.below ak);have hR:=un (HL.o.below ak);obtain⟨c3,_,c4,gc⟩:=bc2 f9.o
     obtain⟨ce,fz,cf,fB⟩:=bc2 fC.o;have KL:=un (zal wr #[(),.int .i64 3,g9,(A9,m9,c9),(D9,md9,cd9)] 43);have dd:=un (zae wr (.cells #[(),.int .i64 3,g9,(A9,m9,c9),(D9,md9,cd9)] 43))
     go_wp2_with (at_make;go_must (refine zdv rfl _ _ rfl U.length _ rfl rfl rfl (by omega) (wr.heap.size+1) (by simp) ?_;intro w5 hh dE;have dk:=un (show VecS w5 wr.heap.size _ _ from hh.base (by simp));have dc:=un (dd.o.trans (dE.mono dd.o.size));have gR:=un (zad dE KL.o);have b0:=zKh dc.o (show bw<wr.heap.size by omega) cd;clear hh dE))
     clear b0;rw[←yMb (U:=U) (k:=k)]at dk
     go_loopw [97] (fun i wy=>∃(s:Nat) (F:OA) (cF:Nat),i=.int .i64 s∧s≤U.length∧yXl wr wy U rows k s F cF g9 (A9,m9,c9) (D9,md9,cd9))
      (fun i _=>U.length-(intOf i).toNat)
     case atStart=>exact⟨0,none,0,rfl,Zb _,gR.o,VecS.nil _ _,dk.o,(fun g h=>by cases h),dc.o⟩
     case round =>
      rename World=>wy
      clear dk gR dc KL dd;obtain⟨s,F,cF,rfl,g5,hO,hF,hV,dC,f⟩:=hrel;by_cases bm:s<U.length
      ·obtain⟨x,hx⟩:∃x,U[s]? = some x:=⟨U[s],Ze _⟩
       have dI:=Zh hx;have dq:=un (bf.o x dI);have kl:=un (bg.o x dI);obtain⟨p,hp⟩:∃p,rows[x.1]? = some p:=⟨rows[x.1]'(by rw[←gL.o];exact dq.o),Ze _⟩
       have he:=Zh hp;have j4:=un (fun h=>yMa (k:=k) hx h);have j5:=un (fun h=>yMS (k:=k) hx h);have j6:=un (show yJZ U rows (s+1)=yJZ U rows s++[(x.2:Rat)*p.rhs]by rw[yMd hx,Zi,hp];rfl);have di:=un (yMV (rows:=rows) g5);obtain⟨ba,rfl,_,p3⟩:=ao.o.row.has (by omega);obtain⟨bb,rfl,_,p4⟩:=ao.o.sg.has (by omega);have g2:=(ao.o.row.at_ (k:=s) (x:=(x.1:Int)) (by simp[hx]))
       have g3:=(ao.o.sg.at_ (k:=s) (x:=x.2) (by simp[hx]))
       obtain⟨b,rfl,p0,p1⟩:=ay.o.has (by have:=dq.o;omega);obtain⟨Q,nq,cq,gp,Ap,mp,cp,Dp,b1,bW,_,_,k2,k3,k4,_,hf⟩:=ay.o.at_ hp;have dg:=un (show I64 x.2 by rcases kl.o with e | e<;>rw[e]<;>exact⟨by decide,by decide⟩);have j1:=un (zu9 _ dg.o);have kf:=un (HG.o.rw_ p he).2.2;generalize p.rhs=q at *
       obtain⟨O,sg⟩:=x;have qh:O<m:=dq.o;have HF:=un hF;have dl:=un hV;have gF:=un dC;have bU:=un hO;have b9:=un (zad f aQ.o);have cb:=un (zad f a3.o);have cc:=un (zad f a4.o);have cg:=un (zad f aI.o);have fL:=un (bM.o.below f);have h5:=un (HL.o.below f);have HW:=un (show Bel wr wy from Bel.mk f);have HQ:=un (show RatS wy gp (Ap,mp,cp) (Dp,b1,bW) q from(hf.below f))
       have fH:=un (ar.o.trans ((f).mono ar.o.size));obtain⟨_,_,fG,_⟩:=bc2 cg.o;have eC:wy.cell? ⟨ba,s,none⟩=some (.int .i64 (O:Int)):=zab f g2;have eD:wy.cell? ⟨bb,s,none⟩=some (.int .i64 sg):=zab f g3;have eE:wy.cell? ⟨b,O*5+2,none⟩=some (.bool gp):=zab f k2
       have eF:wy.cell? ⟨b,O*5+3,none⟩=some (Ap,mp,cp):=zab f k3;have eG:wy.cell? ⟨b,O*5+4,none⟩=some (Dp,b1,bW):=zab f k4;clear hF hV dC hO f g2 g3 k2 k3 k4 hf hp hx dI he
       clear f7 f8 f6 ek em en cd fy fx fA c3 c4 gc ce fz cf fB;have qb:(0:Int)≤(s:Int):=Zf _;have qc:(s:Int)<(U.length:Int):=by omega
       have qd:(0:Int)≤(O:Int):=Zf _;have qe:(O:Int)<(m:Int):=by omega
       obtain⟨fM,_,_,_,fN,_,_,_,fO,_,_,_,dZ,_,_,_,dW,_⟩:=bf5 bU.o;go_wp2_with fail
       with_reducible refine(Rt.int sg dg.o.1 dg.o.2 _).mono ?_
       rintro e u1 ⟨g7,A7,m7,c7,D7,md7,cd7,rfl,hn,d⟩;have cj:=un (zad d b9.o);have aJ:=un (zad d cb.o);have iK:=un (zad d bU.o);have lX:=un (HW.o.below d);have lI:=un (HQ.o.below d);have h4:=un (HF.o.below d);have h7:=un (dl.o.below d)
       have j2:=un (show RatS u1 g7 (A7,m7,c7) (D7,md7,cd7) ((sg:Int):Rat)from hn);have ch:=un (fH.o.trans ((d).mono fH.o.size));obtain⟨bB,bE,iW,_,bD,bF,iX,_,bG,bJ,iY,_,bH,bK,iZ,_,bI,bL,i1,_,bq,bp,hT,_,bu,bs,hX,_,bt,br,hZ,_⟩:=bf8 aJ.o
       have ey:=zab d eE;have ez:=zab d eF;have eA:=zab d eG;clear hn d;have J:=zae u1 (.cells #[g7,(A7,m7,c7),(D7,md7,cd7)] 41);have io:=un (zad J cj.o);have iL:=un (zad J iK.o);have lW:=un (lX.o.below J);have lJ:=un (lI.o.below J);have lF:=un (h4.o.below J);have lD:=un (h7.o.below J);have h6:=un (j2.o.below J)
       obtain⟨_,_,sI,_⟩:=bc2 io.o;obtain⟨s9,_⟩:=bf5 iL.o;have l3:=zab J ey;have k7:=zaa l3;have l4:=zab J ez;have lb:=zaa l4;have lZ:=zab J eA;have le:=zaa lZ
       have KG:=un (zal u1 #[g7,(A7,m7,c7),(D7,md7,cd7)] 41);obtain⟨q4,_,q8,_,ra,_⟩:=bc3 KG.o
       clear fG eC eD eE eF eG fM fN fO dZ dW bB bE iW bD bF iX bG bJ iY bH bK iZ bI bL i1 bq bp hT bu bs hX bt br hZ ey ez eA;go_upto_region 25 with fail
       have jZ:=un (show ∀g,(Value.slice F s cF).ownBlock=some g→g<u1.heap.size from fun g e=>(h4.o.lt e).2);have j0:=un (show wr.heap.size+1<u1.heap.size from(h7.o.lt rfl).2);generalize hwu:(u1.alloc (.cells #[g7,(A7,m7,c7),(D7,md7,cd7)] 41))=u2 at *
       have qn:u1.heap.size+1=u2.heap.size:=by rw[←hwu];simp
       clear hwu
       go_cut[] (fun wq=>∃(T:OA) (Z:Nat),wq.heap[wr.heap.size]? = some (.cells #[(T,s+1,Z),.int .i64 3,g9,(A9,m9,c9),(D9,md9,cd9)] 43 (0,0))∧VecS wq wr.heap.size (T,s+1,Z) (yJZ U rows (s+1))∧VecS wq wr.heap.size (.slice (some ⟨wr.heap.size+1,0,none⟩) U.length U.length) (yJY U k s)∧(∀g,(Value.slice T (s+1) Z).ownBlock=some g→g≠wr.heap.size+1)∧Below wr.heap.size wr wq∧wq.heap[u1.heap.size]? = some (.cells #[g7,(A7,m7,c7),(D7,md7,cd7)] 41 (0,0))∧RatS wq g7 (A7,m7,c7) (D7,md7,cd7) ((sg:Int):Rat))
       case first=>as_aux_lemma =>
        have L1:=un (show 4*(mw ((sg:Int):Rat)+mw q)+8≤LIM by have h1:mw ((sg:Int):Rat)≤1:=j1.o;have h2:=kf.o;have h3:=gE.o;omega)
        refine zaS (S:=fun w'=>w'.cell? ⟨wr.heap.size,0,none⟩=some (F,s,cF)∧w'.cell? ⟨w,1,none⟩=some (b,m,I)∧w'.cell? ⟨u1,0,none⟩=some (.bool g7)∧w'.cell? ⟨u1,1,none⟩=some (A7,m7,c7)∧w'.cell? ⟨u1,2,none⟩=some (D7,md7,cd7)∧w'.cell? ⟨b,O*5+2,none⟩=some (.bool gp)∧w'.cell? ⟨b,O*5+3,none⟩=some (Ap,mp,cp)∧w'.cell? ⟨b,O*5+4,none⟩=some (Dp,b1,bW)) [13] (h:=fun hHeld=>?_);refine zaw [0,1,2,3,4,5,6,7,8] ?_
        repeat refine tkL (hS:=hHeld) (h:=?_)
        refine zao ?_;refine zaB 9 (h:=fun K r=>?_);go_simp
        (go_at_call 15;(with_reducible refine(Rt.mul g7 A7 m7 c7 D7 md7 cd7 ((sg:Int):Rat) gp Ap mp cp Dp b1 bW q _ h6.o.drew lJ.o.drew L1.o).mono ?_);rintro e v1 ⟨g8,A8,m8,c8,D8,md8,cd8,rfl,hn8,d⟩;have l5:=un (zad d io.o);have iP:=un (zad d iL.o);have hJ:=un (zad d KG.o);have ie:=un (lW.o.drew.below d);have lG:=un (lF.o.drew.below d);have i7:=un (lD.o.drew.below d);have lE:=un (h6.o.drew.below d);have j7:=un (show RatS v1 g8 (A8,m8,c8) (D8,md8,cd8) (((sg:Int):Rat)*q)from hn8);obtain⟨_,_,mc,_⟩:=bc2 l5.o;obtain⟨s2,_,_,_,_,_,_,_,_,_,_,_,_,_,rt,_⟩:=bf5 iP.o;obtain⟨q5,_,q9,_,rb,_⟩:=bc3 hJ.o;have iN:=zab d k7;have iO:=zab d lb;have iQ:=zab d le;have qo:=It.bdrew0' d |>.size;clear hn8;clear d)
        (try go_wp2_with fail)
        refine shutOn r fun hHeld=>?_
        clear r K;refine zaB 10 (h:=fun K r=>?_);go_simp;refine shutOn r fun hHeld=>?_
        clear r K;refine zaB 11 (h:=fun K r=>?_)
        ((refine zTC (by rfl) _ _ (by rfl) (by rfl) (lG.o.alloc _) (by rfl) (zal _ _ _) (j7.o.alloc _) (N:=s) di.o (by omega) (by have:=ie.o.b.size;simp;omega) ?_);intro T Z v9 aj aG G dH dF g6;have kq:=un aj;have a5:=un ((ie.o.alloc _).b.trans G);have ds:=un (aG.blk (zak iP.o) (by decide));have dm:=un ((i7.o.alloc (.cells #[g8,(A8,m8,c8),(D8,md8,cd8)] 41)).keepAll (fun k_ e_=>dF k_ ((i7.o.alloc (.cells #[g8,(A8,m8,c8),(D8,md8,cd8)] 41)).lt e_).2 fun e2=>by cases e_;exact gF.o _ e2.symm rfl) fun _ _ _ _ y=>y.keepT dH);have gQ:=un ((dF u1.heap.size (by simp;omega) fun e_=>by have:=jZ.o _ e_.symm;omega).trans (zak hJ.o));have j3:=un ((lE.o.alloc _).keepT dH);have j8:=un g6;obtain⟨o0,_,hy,_,o1,_,of1,_⟩:=bf5 ds.o;obtain⟨r0,_,r1,_,r2,_⟩:=bc3 gQ.o;have t0:=zKh G (show w.heap.size<wr.heap.size by omega) (cell_al (ob:=.cells #[g8,(A8,m8,c8),(D8,md8,cd8)] 41) mc);have t1:=zKh G (show b<wr.heap.size by omega) (cell_al (ob:=.cells #[g8,(A8,m8,c8),(D8,md8,cd8)] 41) iN);have t2:=zKh G (show b<wr.heap.size by omega) (cell_al (ob:=.cells #[g8,(A8,m8,c8),(D8,md8,cd8)] 41) iO);have t3:=zKh G (show b<wr.heap.size by omega) (cell_al (ob:=.cells #[g8,(A8,m8,c8),(D8,md8,cd8)] 41) iQ);clear aj aG G dH dF g6)
        refine shutOn r fun hHeld=>?_
        clear r K;refine zaw [12] ?_;repeat refine tkL (hS:=hHeld) (h:=?_)
        refine zao ?_;refine zay 13 (h:=fun K r=>?_);go_simp;refine shutOff r ?_;clear r K;refine zaM (h:=?_);go_wp2;go_meet;have z:TKeep 43 v9 (v9.setCell ⟨wr.heap.size,0,none⟩ (T,s+1,Z)):=TKeep.set ds.o _
        case rel=>exact⟨T,Z,zar _ ds.o,by rw[j6.o];exact kq.o.tk z (by decide) (by decide),dm.o.tk z (by decide) (by decide),(fun g e=>j8.o.elim (fun h=>gF.o g (by rw[←h];exact e)) fun h=>by have h1:=h g e;have h2:=j0.o;simp at h1;omega),bsc (p:=⟨wr.heap.size,0,none⟩) a5.o (Za _),z.blk gQ.o (by decide),j3.o.tk z (by decide)⟩
       case rest =>
        rename World=>wq
        obtain⟨T,Z,gX,gW,aj,dD,gV,kC,kD⟩:=hcut;obtain⟨w0,_,w1,_,w2,_⟩:=bc3 kC;by_cases hi:O=k
        ·have kL:(O:Int)=(k:Int):=by omega
         obtain⟨cs,kG⟩:=aj.blkOf;have p8:=aj.fro (s*3);have p9:=aj.fro (s*3+1);have qa:=aj.fro (s*3+2);obtain⟨gz,Az,mz,cz,Dz,qp,pU,z0,z1,z2,_⟩:=aj.at_ (zaH (show s<(yJY U k s).length by rw[yMR g5];exact bm));have gM:=un (aj.store s kD);rw[j5.o hi]at gM;go_wp2;go_roundw
         have kI:=rk3 kG (s*3) (s*3+1) (s*3+2) g7 (A7,m7,c7) (D7,md7,cd7);have hd:∀n,n≠wr.heap.size+1→(((wq.setCell ⟨wr.heap.size+1,s*3,none⟩ g7).setCell ⟨wr.heap.size+1,s*3+1,none⟩ (A7,m7,c7)).setCell ⟨wr.heap.size+1,s*3+2,none⟩ (D7,md7,cd7)).heap[n]? = wq.heap[n]?:=fun n e=>by rw[Zk _ _ _ _ (by exact e),Zk _ _ _ _ (by exact e),Zk _ _ _ _ (by exact e)]
         case rel=>exact⟨s+1,T,Z,by go_num,by omega,(hd _ (by omega)).trans gX,gW.keepAll (fun n_ e_=>hd _ (dD n_ e_)) (fun _ _ _ _ y=>y.keepT kI),gM.o,dD,bsc (p:=⟨wr.heap.size+1,s*3+2,none⟩) (bsc (p:=⟨wr.heap.size+1,s*3+1,none⟩) (bsc (p:=⟨wr.heap.size+1,s*3,none⟩) (gV) (Xz _)) (Xz _)) (Xz _)⟩
         case measure=>simp[intOf];omega
        ·have kL:¬(O:Int)=(k:Int):=by omega
         go_wp2;go_roundw
         case rel=>exact⟨s+1,T,Z,by go_num,by omega,gX,gW,by rw[j4.o hi];exact aj,dD,gV⟩
         case measure=>simp[intOf];omega
      ·obtain rfl:s=U.length:=by omega
       rw[yMQ]at hV;have ad:=un (gH.o.trans (f.mono gH.o.size));have bU:=un hO;have b9:=un (zad f aQ.o);have cb:=un (zad f a3.o);have cc:=un (zad f a4.o);have cg:=un (zad f aI.o);have fL:=un (bM.o.below f);have h5:=un (HL.o.below f);have HF:=un (show VecS wy 0 (F,U.length,cF) (yJZ U rows U.length)from(hF.base (Zb _)))
       have dl:=un (show VecS wy 0 (.slice (some ⟨wr.heap.size+1,0,none⟩) U.length U.length) (yJH U k)from(hV.base (Zb _)));have fH:=un (ar.o.trans ((f).mono ar.o.size));obtain⟨_,_,fG,_⟩:=bc2 cg.o;obtain⟨fM,_,fN,_,fO,_,dZ,_,dW,_⟩:=bc5 bU.o;clear hO hF hV dC f
       clear f7 f8 f6 ek em en cd fy fx fA c3 c4 gc ce fz cf fB;have kg:=un (show(yJL U rows cost).length=j by rw[yKO,←aC.o])
       go_wp2_with (at_builtin;refine yJR rfl _ _ rfl rfl (h5.o.alloc _) rfl (zal _ _ _) ⟨HF.o.alloc _,rfl,fL.o.alloc _⟩ (n:=j) (p:=⟨yJZ U rows U.length,3,vv⟩) kg.o (by omega) (by have:=ad.o.size;simp;omega) ?_;intro G9 kA v9 bi aG G;have dh:=un bi;have a5:=un ((Zo ad.o ad.o.size (.cells #[(F,U.length,cF),.int .i64 3,g9,(A9,m9,c9),(D9,md9,cd9)] 43)).trans G);have dm:=un ((dl.o.alloc (.cells #[(F,U.length,cF),.int .i64 3,g9,(A9,m9,c9),(D9,md9,cd9)] 43)).keepR aG);clear bi aG G)
       with_reducible refine(ends S2 G9 (j+1) kA (some ⟨wr.heap.size+1,0,none⟩) U.length U.length (yJL U rows cost++[⟨yJZ U rows U.length,3,vv⟩]) (yJH U k) B _ (dh.o.base' (Zb _)).toS dm.o gJ.o gG.o).mono ?_
       rintro e w6 ⟨d,h⟩;have ai:Below wz.heap.size wz w6:=a5.o.trans (d.mono a5.o.size);rw[ka.o]at h;have cj:=un (zad ai cv.o);have aJ:=un (zad ai bP.o);have ch:=un (bd.o.trans ((ai).mono bd.o.size))
       obtain⟨bB,bE,iW,_,bD,bF,iX,_,bG,bJ,iY,_,bH,bK,iZ,_,bI,bL,i1,_,bq,bp,hT,_,bu,bs,hX,_,bt,br,hZ,_⟩:=bf8 aJ.o;clear ai d;clear fG fM fN fO dZ dW;cases o with
       | spent kk =>
        obtain⟨fb,ev,rfl,bk,kz,num,rfl,dG,kH⟩:=h;go_wp2;refine Zd (v:=.tuple #[.agg #[false,(),(),false,(),(),false,false],.iface 224 (.pointer (some ⟨fb,0,none⟩))]) (by simp[results,results28,go_sem,bB,bE,bD,bF,bG,bJ,bH,bK,bI,bL,bq,bp,bu,bs,bt,br]) rfl ?_;have z:=zYl aJ.o false () () false () () false false
        show yJX _ _ (yJF _ _ _ _) _ _
        rw[dp.o,df.o];exact⟨bsc (bsc (bsc (bsc (bsc (bsc (bsc (bsc ch.o))))))),fb,_,rfl,z.blk bk (by decide),kz,num,rfl,dG,z.blk kH (by decide)⟩
       | none kk =>
        obtain⟨fb,rfl,bk⟩:=h;go_wp2;refine Zd (v:=.tuple #[.agg #[false,(),(),false,(),(),false,false],.iface 224 (.pointer (some ⟨fb,0,none⟩))]) (by simp[results,results28,go_sem,bB,bE,bD,bF,bG,bJ,bH,bK,bI,bL,bq,bp,bu,bs,bt,br]) rfl ?_;have z:=zYl aJ.o false () () false () () false false
        show yJX _ _ (yJF _ _ _ _) _ _
        rw[dp.o,df.o];exact⟨bsc (bsc (bsc (bsc (bsc (bsc (bsc (bsc ch.o))))))),fb,rfl,z.blk bk (by decide)⟩
       | ends a b =>
        obtain⟨gl,a1,m1,c1,d1,dL,dx,gh,a2,m2,c2,d2,dM,dy,rfl,kJ,kK⟩:=h;go_wp2;refine Zd (v:=.tuple #[.agg #[gl,(a1,m1,c1),(d1,dL,dx),gh,(a2,m2,c2),(d2,dM,dy),.bool a.isSome,.bool b.isSome],.nilIface]) (by simp[results,results28,go_sem,bB,bE,bD,bF,bG,bJ,bH,bK,bI,bL,bq,bp,bu,bs,bt,br]) rfl ?_;have z:=zYl aJ.o gl (a1,m1,c1) (d1,dL,dx) gh (a2,m2,c2) (d2,dM,dy) (.bool a.isSome) (.bool b.isSome)
        show yJX _ _ (yJF _ _ _ _) _ _
        rw[dp.o,df.o];exact⟨bsc (bsc (bsc (bsc (bsc (bsc (bsc (bsc ch.o))))))),gl,a1,m1,c1,d1,dL,dx,gh,a2,m2,c2,d2,dM,dy,rfl,kJ.tk z (by decide),kK.tk z (by decide)⟩
 | falls cols jj nn =>
  obtain⟨P,cP,D,cD,rfl,hP,hD⟩:=h;have u:=zae w2 (.cells #[.int .i64 3,(P,nC,cP),(),(D,nC,cD),.int .i64 (nn:Int)] 76);have aA:=un (zad u bN.o);have aa:=un (zad u bO.o);have bx:=un (b8.o.below u);have bv:=un (da.o.below u);have aB:=un (az.o.trans ((u).mono az.o.size));obtain⟨cw,_,cx,_⟩:=bc2 aA.o;obtain⟨aU,aO,cL,_,aV,aP,cJ,_,aW,aR,cK,_,aX,aT,cM,_,aY,aS,cN,_,a0,aZ,cU,_,aM,aK,cn,_,aN,aL,cr,_⟩:=bf8 aa.o
  have KR:=un (zal w2 #[.int .i64 3,(P,nC,cP),(),(D,nC,cD),.int .i64 (nn:Int)] 76);obtain⟨cX,_,cZ,_,c0,_,c5,_,c6,_⟩:=bc5 KR.o;go_wp2;refine Zd (v:=.tuple #[.agg #[false,(),(),false,(),(),false,false],.iface 73 (.int .i64 210)]) (by simp[results,results28,go_sem,aU,aO,aV,aP,aW,aR,aX,aT,aY,aS,a0,aZ,aM,aK,aN,aL]) rfl ?_
  have z:=zYl aa.o false () () false () () false false;exact⟨bsc (bsc (bsc (bsc (bsc (bsc (bsc (bsc aB.o))))))),rfl⟩
