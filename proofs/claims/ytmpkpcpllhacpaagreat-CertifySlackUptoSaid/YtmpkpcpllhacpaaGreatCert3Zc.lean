/- Contracts and lemmas: Cert3. Conditions: as each says. -/
import Derived.Test.YtmpkpcpllhacpaaGreatNgZc
set_option linter.all false
set_option maxHeartbeats 4000000
set_option maxRecDepth 100000
namespace Go.Proofs.YtmpkpcpllhacpaaGreat
open Go.RowKit Am
open Lib (hid)
attribute [local go_sem ↓] Go.wp_at_zero Go.wp_at_succ
namespace Ct
open Pb (zPu)
theorem bounds_yes(C:OA)(nc cc:Nat)(R:OA)(nr a:Nat)(cost:List Rat)(rows:List PRow)(Y:OA)(c b:Nat)(y:List Rat)(w:World)(hc:VecS w 0 (.slice C nc cc) cost)(hr:RowsS w 0 (.slice R nr a) rows)(g:VecS w 0 (.slice Y c b) y)(f:y.length=rows.length)(hg:Good nc nr cost rows)(zy:Sm y)(e:cost.length=nc)(d:ydS nc cost rows y=true) :
  Calls Tryz.prog 11 #[.agg #[.slice C nc cc,.slice R nr a],.slice Y c b] w (zii w (sb y rows) true):=by
 have h:=yeC C nc cc R nr a cost rows Y c b y w hc hr g f hg zy e;rw[d]at h;exact h
theorem bounds_is(C:OA)(nc cc:Nat)(R:OA)(nr a:Nat)(cost:List Rat)(rows:List PRow)(Y:OA)(f c:Nat)(y:List Rat)(w:World)(hc:VecS w 0 (.slice C nc cc) cost)(hr:RowsS w 0 (.slice R nr a) rows)(i:VecS w 0 (.slice Y f c) y)(hg:Good nc nr cost rows)(zy:Sm y)(j:cost.length=nc)(b:Bool)(g:yep nc cost rows y=b) :
  Calls Tryz.prog 11 #[.agg #[.slice C nc cc,.slice R nr a],.slice Y f c] w (zii w (if b then sb y rows else 0) b):=by
 by_cases d:y.length=rows.length
 ·have h:=yeC C nc cc R nr a cost rows Y f c y w hc hr i d hg zy j;have e:ydS nc cost rows y=b:=by rw[←g];unfold yep;rw[decide_eq_true d];rfl
  rw[e]at h;exact h
 ·have e:b=false:=by rw[←g];unfold yep;rw[decide_eq_false d];rfl
  subst e;exact yeB C nc cc R nr a cost rows Y f c y w hc hr i d
theorem fits_is(C:OA)(nc cc:Nat)(R:OA)(nr a:Nat)(cost:List Rat)(rows:List PRow)(X:OA)(d c:Nat)(x:List Rat)(w:World)(hc:VecS w 0 (.slice C nc cc) cost)(hr:RowsS w 0 (.slice R nr a) rows)(g:VecS w 0 (.slice X d c) x)(hg:Good nc nr cost rows)(zx:Sm x)(b:Bool)(f:znD cost rows x=b) :
  Calls Tryz.prog 12 #[.agg #[.slice C nc cc,.slice R nr a],.slice X d c] w fun e w'=>e=.returned (.bool b)∧Below w.heap.size w w':=by
 rw[←f];exact Pb.fits C nc cc R nr a cost rows X d c x w hc hr g (Nat.le_trans hg.hc (by decide)) hg.rw_ zx (Nat.le_trans hg.hr (by decide))
theorem optimal_is(C:OA)(nc cc:Nat)(R:OA)(nr a:Nat)(cost:List Rat)(rows:List PRow)(X:OA)(d c:Nat)(x:List Rat)(Y:OA)(n m:Nat)(y:List Rat)(w:World)(hc:VecS w 0 (.slice C nc cc) cost)(hr:RowsS w 0 (.slice R nr a) rows)(J:VecS w 0 (.slice X d c) x)(K:VecS w 0 (.slice Y n m) y)(hg:Good nc nr cost rows)(zy:Sm y)(zx:Sm x)(A:cost.length=nc) :
  Calls Tryz.prog 13 #[.agg #[.slice C nc cc,.slice R nr a],.slice X d c,.slice Y n m] w fun e w'=>e=.returned (.bool (yeG nc cost rows x y))∧Below w.heap.size w w':=by
 have g:=hid hg;have I:=hid zy;have z:=hid zx;have E:=hid A;have U:=hid (show 4*(mw (sb y rows)+mw (dot cost x))+8≤LIM by have:=yeX hg.rw_ zy (by rw[←hr.len];exact hg.hr);have:=zDI hg.sc zx (by rw[A];have:=hg.hc;omega);have:=zaP;omega);generalize hob:yeG nc cost rows x y=ob;have u:=hid hob;clear hg zy zx A hob;obtain⟨W,f⟩:∃W,(w.alloc (.cells #[.slice C nc cc,.slice R nr a] 31))=W:=⟨_,rfl⟩
 have v:=hid (show W.heap[w.heap.size]? = some (.cells #[.slice C nc cc,.slice R nr a] 31 (0,0))by rw[←f];exact zam (by simp));have b:=hid (show Below w.heap.size w W by rw[←f];exact zae w _);have s:=hid (show VecS W 0 (.slice C nc cc) cost by rw[←f];exact(hc).alloc _);have t:=hid (show RowsS W 0 (.slice R nr a) rows by rw[←f];exact(hr).alloc _);have G:=hid (show VecS W 0 (.slice X d c) x by rw[←f];exact(J).alloc _);have H:=hid (show VecS W 0 (.slice Y n m) y by rw[←f];exact(K).alloc _)
 obtain⟨ai,_,aj,_⟩:=bc2 v.out;clear hc hr J K;go_enter Tryz.func13,Tryz.ntmps13;go_wp2_with fail
 clear f;cases hbb:yep nc cost rows y
 ·have l:=hid (show ob=false by rw[←u.out];exact yeH (.inl hbb));with_reducible refine(bounds_is C nc cc R nr a cost rows Y n m y _ s.out t.out H.out g.out I.out E.out false hbb).mono ?_
  rintro e w1 ⟨g2,A2,m2,c2,D2,md2,cd2,rfl,hn,hb⟩;have o:=hid (show(w1.alloc (.cells #[.bool g2,.slice A2 m2 c2,.slice D2 md2 cd2] 47)).heap[w.heap.size]? = some (.cells #[.slice C nc cc,.slice R nr a] 31 (0,0))from zak (zad hb v.out));have r:=hid (show VecS (w1.alloc (.cells #[.bool g2,.slice A2 m2 c2,.slice D2 md2 cd2] 47)) 0 (.slice C nc cc) cost from(s.out.below hb).alloc _)
  have q:=hid (show RowsS (w1.alloc (.cells #[.bool g2,.slice A2 m2 c2,.slice D2 md2 cd2] 47)) 0 (.slice R nr a) rows from(t.out.below hb).alloc _);have p:=hid (show VecS (w1.alloc (.cells #[.bool g2,.slice A2 m2 c2,.slice D2 md2 cd2] 47)) 0 (.slice X d c) x from(G.out.below hb).alloc _);have j:=hid (show Below w.heap.size w (w1.alloc (.cells #[.bool g2,.slice A2 m2 c2,.slice D2 md2 cd2] 47))from((b.out.trans ((hb).mono b.out.size))).alloc ((b.out.trans ((hb).mono b.out.size))).size _)
  have B:=hid (show(w1.alloc (.cells #[.bool g2,.slice A2 m2 c2,.slice D2 md2 cd2] 47)).heap[w1.heap.size]? = some (.cells #[.bool g2,.slice A2 m2 c2,.slice D2 md2 cd2] 47 (0,0))from zam (by simp));obtain⟨aa,_,ab,_⟩:=bc2 o.out;clear hn hb;go_wp2;go_ret
  exact⟨by rw[l.out];first | done | rfl,j.out⟩
 ·skip
  with_reducible refine(bounds_is C nc cc R nr a cost rows Y n m y _ s.out t.out H.out g.out I.out E.out true hbb).mono ?_
  rintro e w1 ⟨g2,A2,m2,c2,D2,md2,cd2,rfl,hn,hb⟩;have o:=hid (show(w1.alloc (.cells #[.bool g2,.slice A2 m2 c2,.slice D2 md2 cd2] 47)).heap[w.heap.size]? = some (.cells #[.slice C nc cc,.slice R nr a] 31 (0,0))from zak (zad hb v.out));have r:=hid (show VecS (w1.alloc (.cells #[.bool g2,.slice A2 m2 c2,.slice D2 md2 cd2] 47)) 0 (.slice C nc cc) cost from(s.out.below hb).alloc _)
  have q:=hid (show RowsS (w1.alloc (.cells #[.bool g2,.slice A2 m2 c2,.slice D2 md2 cd2] 47)) 0 (.slice R nr a) rows from(t.out.below hb).alloc _);have p:=hid (show VecS (w1.alloc (.cells #[.bool g2,.slice A2 m2 c2,.slice D2 md2 cd2] 47)) 0 (.slice X d c) x from(G.out.below hb).alloc _);have F:=hid (show RatS (w1.alloc (.cells #[.bool g2,.slice A2 m2 c2,.slice D2 md2 cd2] 47)) g2 (.slice A2 m2 c2) (.slice D2 md2 cd2) (sb y rows)from(hn).alloc _)
  have j:=hid (show Below w.heap.size w (w1.alloc (.cells #[.bool g2,.slice A2 m2 c2,.slice D2 md2 cd2] 47))from((b.out.trans ((hb).mono b.out.size))).alloc ((b.out.trans ((hb).mono b.out.size))).size _);have B:=hid (show(w1.alloc (.cells #[.bool g2,.slice A2 m2 c2,.slice D2 md2 cd2] 47)).heap[w1.heap.size]? = some (.cells #[.bool g2,.slice A2 m2 c2,.slice D2 md2 cd2] 47 (0,0))from zam (by simp));obtain⟨aa,_,ab,_⟩:=bc2 o.out;clear hn hb;go_wp2_with fail
  cases hf:znD cost rows x
  ·have l:=hid (show ob=false by rw[←u.out];exact yeH (.inr hf));with_reducible refine(fits_is C nc cc R nr a cost rows X d c x _ r.out q.out p.out g.out z.out false hf).mono ?_
   rintro e V ⟨rfl,hb⟩;have D:=hid (zad hb o.out);have N:=hid (zad hb B.out);have M:=hid (r.out.below hb);have P:=hid (q.out.below hb);have Q:=hid (p.out.below hb);have L:=hid (F.out.below hb);have k:=hid (j.out.trans ((hb).mono j.out.size));obtain⟨ac,_,ad,_⟩:=bc2 D.out;clear hb;go_wp2;go_ret
   exact⟨by rw[l.out];first | done | rfl,k.out⟩
  ·have l:=hid (show zA9 (sb y rows) (dot cost x)=ob by rw[←u.out];unfold yeG;rw[hbb,hf];rfl);have T:=hid (show cost.length=x.length from(ydT.1 hf).1.symm);with_reducible refine(fits_is C nc cc R nr a cost rows X d c x _ r.out q.out p.out g.out z.out true hf).mono ?_
   rintro e V ⟨rfl,hb⟩;have D:=hid (zad hb o.out);have N:=hid (zad hb B.out);have M:=hid (r.out.below hb);have P:=hid (q.out.below hb);have Q:=hid (p.out.below hb);have L:=hid (F.out.below hb);have k:=hid (j.out.trans ((hb).mono j.out.size));obtain⟨ac,_,ad,_⟩:=bc2 D.out;clear hb;go_wp2_with fail
   with_reducible refine(zPu C nc cc R nr a cost rows X d c x _ M.out P.out Q.out T.out (Nat.le_trans g.out.hc (by decide)) g.out.sc z.out).mono ?_
   rintro e i ⟨g3,A3,m3,c3,D3,md3,cd3,rfl,hn,hb⟩;have af:=hid (show(i.alloc (.cells #[.bool g3,.slice A3 m3 c3,.slice D3 md3 cd3] 47)).heap[w1.heap.size]? = some (.cells #[.bool g2,.slice A2 m2 c2,.slice D2 md2 cd2] 47 (0,0))from zak (zad hb N.out));have Z:=hid (show RatS (i.alloc (.cells #[.bool g3,.slice A3 m3 c3,.slice D3 md3 cd3] 47)) g2 (.slice A2 m2 c2) (.slice D2 md2 cd2) (sb y rows)from(L.out.below hb).alloc _)
   have S:=hid (show RatS (i.alloc (.cells #[.bool g3,.slice A3 m3 c3,.slice D3 md3 cd3] 47)) g3 (.slice A3 m3 c3) (.slice D3 md3 cd3) (dot cost x)from(hn).alloc _);have O:=hid (show Below w.heap.size w (i.alloc (.cells #[.bool g3,.slice A3 m3 c3,.slice D3 md3 cd3] 47))from((k.out.trans ((hb).mono k.out.size))).alloc ((k.out.trans ((hb).mono k.out.size))).size _)
   have ag:=hid (show(i.alloc (.cells #[.bool g3,.slice A3 m3 c3,.slice D3 md3 cd3] 47)).heap[i.heap.size]? = some (.cells #[.bool g3,.slice A3 m3 c3,.slice D3 md3 cd3] 47 (0,0))from zam (by simp));obtain⟨ak,_,al,_,am,_⟩:=bc3 af.out;obtain⟨an,_,ao,_,ap,_⟩:=bc3 ag.out;clear hn hb;go_wp2_with fail
   with_reducible refine(Rt.same g2 A2 m2 c2 D2 md2 cd2 (sb y rows) g3 A3 m3 c3 D3 md3 cd3 (dot cost x) _ Z.out S.out U.out).mono ?_
   rintro e w4 ⟨rfl,hb⟩;have ae:=hid (O.out.trans ((hb).mono O.out.size));clear hb;go_wp2;go_ret
   exact⟨by rw[l.out];first | done | rfl,ae.out⟩
theorem optimal(C:OA)(nc cc:Nat)(R:OA)(nr a:Nat)(cost:List Rat)(rows:List PRow)(X:OA)(d b:Nat)(x:List Rat)(Y:OA)(f c:Nat)(y:List Rat)(w:World)(hc:VecS w 0 (.slice C nc cc) cost)(hr:RowsS w 0 (.slice R nr a) rows)(m:VecS w 0 (.slice X d b) x)(n:VecS w 0 (.slice Y f c) y)(l:y.length=rows.length)(hg:Good nc nr cost rows)(zy:Sm y)(zx:Sm x)(i:cost.length=nc)(g:ydS nc cost rows y=true)(k:znD cost rows x=true)(_:cost.length=x.length)(j:sb y rows=dot cost x) :
  Calls Tryz.prog 13 #[.agg #[.slice C nc cc,.slice R nr a],.slice X d b,.slice Y f c] w fun e w'=>e=.returned (.bool true)∧Below w.heap.size w w':=by
 have h:=optimal_is C nc cc R nr a cost rows X d b x Y f c y w hc hr m n hg zy zx i;rw[show yeG nc cost rows x y=true by unfold yeG yep;rw[g,k,decide_eq_true l,decide_eq_true j];rfl]at h;exact h
theorem infeasible_is(C:OA)(nc cc:Nat)(R:OA)(nr a:Nat)(cost:List Rat)(rows:List PRow)(Y:OA)(g f:Nat)(y:List Rat)(w:World)(hc:VecS w 0 (.slice C nc cc) cost)(hr:RowsS w 0 (.slice R nr a) rows)(D:VecS w 0 (.slice Y g f) y)(hg:Good nc nr cost rows)(zy:Sm y) :
  Calls Tryz.prog 18 #[.agg #[.slice C nc cc,.slice R nr a],.slice Y g f] w fun e w'=>e=.returned (.bool (yeD nc rows y))∧Below w.heap.size w w':=by
 have b:=hid hg;have B:=hid zy;have O:=hid (show rows.length≤4 by rw[←hr.len];exact hg.hr);generalize hob:yeD nc rows y=ob;have j:=hid hob;clear hg zy hob;obtain⟨W,i⟩:∃W,(w.alloc (.cells #[.slice C nc cc,.slice R nr a] 31))=W:=⟨_,rfl⟩
 have t:=hid (show W.heap[w.heap.size]? = some (.cells #[.slice C nc cc,.slice R nr a] 31 (0,0))by rw[←i];exact zam (by simp));have d:=hid (show Below w.heap.size w W by rw[←i];exact zae w _);have m:=hid (show VecS W 0 (.slice C nc cc) cost by rw[←i];exact(hc).alloc _);have o:=hid (show RowsS W 0 (.slice R nr a) rows by rw[←i];exact(hr).alloc _);have p:=hid (show VecS W 0 (.slice Y g f) y by rw[←i];exact(D).alloc _);obtain⟨au,_,av,_⟩:=bc2 t.out;clear hc hr D;go_enter Tryz.func18,Tryz.ntmps18
 go_wp2_with fail
 clear i;by_cases u:y.length=rows.length
 ·have n:=hid u;with_reducible refine(yeN C nc cc R nr a cost rows Y g f y _ m.out o.out p.out n.out b.out.hr (Nat.le_trans b.out.hc (by decide)) b.out.rw_ B.out).mono ?_
  rintro e w1 ⟨S2,ns2,cs2,g2,A2,m2,c2,D2,md2,cd2,rfl,hv,hn,hb⟩;have s:=hid (show(w1.alloc (.cells #[.bool g2,.slice A2 m2 c2,.slice D2 md2 cd2] 47)).heap[w.heap.size]? = some (.cells #[.slice C nc cc,.slice R nr a] 31 (0,0))from zak (zad hb t.out));have A:=hid (show VecS (w1.alloc (.cells #[.bool g2,.slice A2 m2 c2,.slice D2 md2 cd2] 47)) 0 (.slice C nc cc) cost from(m.out.below hb).alloc _)
  have x:=hid (show RowsS (w1.alloc (.cells #[.bool g2,.slice A2 m2 c2,.slice D2 md2 cd2] 47)) 0 (.slice R nr a) rows from(o.out.below hb).alloc _);have K:=hid (show VecS (w1.alloc (.cells #[.bool g2,.slice A2 m2 c2,.slice D2 md2 cd2] 47)) 0 (.slice Y g f) y from(p.out.below hb).alloc _);have P:=hid (show VecS (w1.alloc (.cells #[.bool g2,.slice A2 m2 c2,.slice D2 md2 cd2] 47)) 0 (.slice S2 ns2 cs2) (sv nc y rows)from((hv.base (Nat.zero_le _))).alloc _)
  have N:=hid (show RatS (w1.alloc (.cells #[.bool g2,.slice A2 m2 c2,.slice D2 md2 cd2] 47)) g2 (.slice A2 m2 c2) (.slice D2 md2 cd2) (sb y rows)from(hn).alloc _);have r:=hid (show Below w.heap.size w (w1.alloc (.cells #[.bool g2,.slice A2 m2 c2,.slice D2 md2 cd2] 47))from((d.out.trans ((hb).mono d.out.size))).alloc ((d.out.trans ((hb).mono d.out.size))).size _)
  have F:=hid (show(w1.alloc (.cells #[.bool g2,.slice A2 m2 c2,.slice D2 md2 cd2] 47)).heap[w1.heap.size]? = some (.cells #[.bool g2,.slice A2 m2 c2,.slice D2 md2 cd2] 47 (0,0))from zam (by simp));obtain⟨ae,_,af,_⟩:=bc2 s.out;clear hv hn hb;go_wp2_with fail
  with_reducible refine(Pb.may C nc cc R nr a cost rows _ A.out x.out b.out.hc (Nat.le_trans b.out.hr (by decide)) b.out.rw_ b.out.kd).mono ?_
  rintro e w2 ⟨rfl,hb⟩;have ad:=hid (zad hb s.out);have ag:=hid (zad hb F.out);have aa:=hid (A.out.below hb);have an:=hid (x.out.below hb);have Z:=hid (K.out.below hb);have al:=hid (P.out.below hb);have X:=hid (N.out.below hb);have G:=hid (r.out.trans ((hb).mono r.out.size));obtain⟨aw,_,ax,_⟩:=bc2 ad.out;clear hb;go_wp2_with fail
  with_reducible refine(signed C nc cc R nr a cost rows Y g f y _ aa.out an.out Z.out n.out (Nat.le_trans b.out.hr (by decide))).mono ?_
  rintro e w3 ⟨rfl,hb⟩;have aj:=hid (zad hb ag.out);have am:=hid (al.out.below hb);have ac:=hid (X.out.below hb);have v:=hid (G.out.trans ((hb).mono G.out.size));clear hb;cases hsg:zId rows y
  ·have c:=hid (show ob=false by rw[←j.out];unfold yeD yeu;rw[hsg];simp);go_wp2;go_ret
   exact⟨by rw[c.out];first | done | rfl,v.out⟩
  ·skip
   go_wp2_with fail
   with_reducible refine(Rt.int (-1) (by decide) (by decide) _).mono ?_
   rintro e S ⟨g3,A3,m3,c3,D3,md3,cd3,rfl,hn,hb⟩;have ah:=hid (zad hb aj.out);have J:=hid (am.out.below hb);have ab:=hid (ac.out.below hb);have L:=hid (show RatS S g3 (.slice A3 m3 c3) (.slice D3 md3 cd3) ((-1:Int):Rat)from hn);have H:=hid (v.out.trans ((hb).mono v.out.size));clear hn hb;go_wp2_with fail
   with_reducible refine(Vc.scale g3 A3 m3 c3 D3 md3 cd3 ((-1:Int):Rat) S2 ns2 cs2 (sv nc y rows) 0 _ J.out L.out (by rw[(J.out).len,yee b.out.rw_];have:=b.out.hc;omega) (yeT b.out.rw_ B.out O.out) (Nat.le_trans (zu9 _ (by constructor<;>decide)) (by decide))).mono ?_
   rintro e T ⟨T3,nt3,ct3,rfl,hv,hb⟩;have ai:=hid (zad hb ah.out);have V:=hid (ab.out.below hb);have M:=hid (show VecS T 0 (.slice T3 nt3 ct3) (scale ((-1:Int):Rat) (sv nc y rows))from(hv.base (Nat.zero_le _)));have I:=hid (H.out.trans ((hb).mono H.out.size));clear hv hb;go_wp2_with fail
   with_reducible refine(Vc.below T3 nt3 ct3 _ 0 _ M.out).mono ?_
   rintro e w6 ⟨rfl,hb⟩;have ak:=hid (zad hb ai.out);have E:=hid (V.out.below hb);have l:=hid (I.out.trans ((hb).mono I.out.size));obtain⟨ay,_,az,_,aA,_⟩:=bc3 ak.out;clear hb;cases hd:((scale ((-1:Int):Rat) (sv nc y rows)).any fun q=>decide (q<0))
   ·skip
    go_wp2_with fail
    by_cases k:0<sb y rows
    ·have c:=hid (show ob=true by rw[←j.out];unfold yeD yeu;rw[decide_eq_true n.out,hsg,hd,decide_eq_true k];rfl);have Q:=(zPt (sb y rows)).2 k;with_reducible refine(Rt.sign g2 A2 m2 c2 D2 md2 cd2 (sb y rows) _ E.out).mono ?_
     rintro e U ⟨rfl,hb⟩;have z:=hid (l.out.trans ((hb).mono l.out.size));clear hb;go_wp2;go_ret
     exact⟨by rw[c.out];first | done | rfl,z.out⟩
    ·have c:=hid (show ob=false by rw[←j.out];unfold yeD yeu;rw[decide_eq_true n.out,hsg,hd,decide_eq_false k];rfl);have Q:decide (0<(sb y rows).num.sign)=false:=decide_eq_false fun h=>k ((zPt (sb y rows)).1 h)
     have ao:decide (0<(sb y rows).num)=false:=decide_eq_false fun h=>k ((zPs (sb y rows)).1 h)
     with_reducible refine(Rt.sign g2 A2 m2 c2 D2 md2 cd2 (sb y rows) _ E.out).mono ?_
     rintro e U ⟨rfl,hb⟩;have z:=hid (l.out.trans ((hb).mono l.out.size));clear hb;go_wp2;go_ret
     exact⟨by rw[c.out];first | done | rfl,z.out⟩
   ·have c:=hid (show ob=false by rw[←j.out];unfold yeD yeu;rw[hd];simp);go_wp2;go_ret
    exact⟨by rw[c.out];first | done | rfl,l.out⟩
 ·have c:=hid (show ob=false by rw[←j.out];unfold yeD;rw[decide_eq_false u];rfl);with_reducible refine(yeM C nc cc R nr a cost rows Y g f y _ m.out o.out p.out u).mono ?_
  rintro e w1 ⟨S2,ns2,cs2,g2,A2,m2,c2,D2,md2,cd2,rfl,hv,hn,hb⟩;have s:=hid (show(w1.alloc (.cells #[.bool g2,.slice A2 m2 c2,.slice D2 md2 cd2] 47)).heap[w.heap.size]? = some (.cells #[.slice C nc cc,.slice R nr a] 31 (0,0))from zak (zad hb t.out));have A:=hid (show VecS (w1.alloc (.cells #[.bool g2,.slice A2 m2 c2,.slice D2 md2 cd2] 47)) 0 (.slice C nc cc) cost from(m.out.below hb).alloc _)
  have x:=hid (show RowsS (w1.alloc (.cells #[.bool g2,.slice A2 m2 c2,.slice D2 md2 cd2] 47)) 0 (.slice R nr a) rows from(o.out.below hb).alloc _);have K:=hid (show VecS (w1.alloc (.cells #[.bool g2,.slice A2 m2 c2,.slice D2 md2 cd2] 47)) 0 (.slice Y g f) y from(p.out.below hb).alloc _);have r:=hid (show Below w.heap.size w (w1.alloc (.cells #[.bool g2,.slice A2 m2 c2,.slice D2 md2 cd2] 47))from((d.out.trans ((hb).mono d.out.size))).alloc ((d.out.trans ((hb).mono d.out.size))).size _)
  have F:=hid (show(w1.alloc (.cells #[.bool g2,.slice A2 m2 c2,.slice D2 md2 cd2] 47)).heap[w1.heap.size]? = some (.cells #[.bool g2,.slice A2 m2 c2,.slice D2 md2 cd2] 47 (0,0))from zam (by simp));obtain⟨ae,_,af,_⟩:=bc2 s.out;clear hv hn hb;go_wp2;go_ret
  exact⟨by rw[c.out];first | done | rfl,r.out⟩
theorem infeasible(C:OA)(nc cc:Nat)(R:OA)(nr a:Nat)(cost:List Rat)(rows:List PRow)(Y:OA)(c b:Nat)(y:List Rat)(w:World)(hc:VecS w 0 (.slice C nc cc) cost)(hr:RowsS w 0 (.slice R nr a) rows)(j:VecS w 0 (.slice Y c b) y)(f:y.length=rows.length)(hg:Good nc nr cost rows)(zy:Sm y)(i:zId rows y=true)(d:((scale ((-1:Int):Rat) (sv nc y rows)).any fun q=>decide (q<0))=false)(g:0<sb y rows) :
  Calls Tryz.prog 18 #[.agg #[.slice C nc cc,.slice R nr a],.slice Y c b] w fun e w'=>e=.returned (.bool true)∧Below w.heap.size w w':=by
 have h:=infeasible_is C nc cc R nr a cost rows Y c b y w hc hr j hg zy;rw[show yeD nc rows y=true by unfold yeD yeu;rw[decide_eq_true f,i,d,decide_eq_true g];rfl]at h;exact h
