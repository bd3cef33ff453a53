/- Contracts and lemmas: Cert3. Conditions: as each says. -/
import Derived.Test.YtbdhheepakmgkaaGreatNgZc
set_option linter.all false
set_option maxHeartbeats 4000000
set_option maxRecDepth 100000
namespace Go.Proofs.YtbdhheepakmgkaaGreat
open Go.RowKit Am
open Lib (hid)
attribute [local go_sem ↓] Go.wp_at_zero Go.wp_at_succ
namespace Ct
open Pb (zPu)
theorem bounds_yes(C:OA)(nc cc:Nat)(R:OA)(nr a:Nat)(cost:List Rat)(rows:List PRow)(Y:OA)(c b:Nat)(y:List Rat)(w:World)(hc:VecS w 0 (.slice C nc cc) cost)(hr:RowsS w 0 (.slice R nr a) rows)(g:VecS w 0 (.slice Y c b) y)(f:y.length=rows.length)(hg:Good nc nr cost rows)(zy:Sm y)(e:cost.length=nc)(d:ydS nc cost rows y=true) :
  Calls Tryz.prog 11 #[.agg #[.slice C nc cc,.slice R nr a],.slice Y c b] w (zii w (sb y rows) true):=by
 have h:=yeC C nc cc R nr a cost rows Y c b y w hc hr g f hg zy e;rw[d]at h;exact h
theorem bounds_is(C:OA)(nc cc:Nat)(R:OA)(nr a:Nat)(cost:List Rat)(rows:List PRow)(Y:OA)(f c:Nat)(y:List Rat)(w:World)(hc:VecS w 0 (.slice C nc cc) cost)(hr:RowsS w 0 (.slice R nr a) rows)(i:VecS w 0 (.slice Y f c) y)(hg:Good nc nr cost rows)(zy:Sm y)(j:cost.length=nc)(b:Bool)(g:yep nc cost rows y=b) :
  Calls Tryz.prog 11 #[.agg #[.slice C nc cc,.slice R nr a],.slice Y f c] w (zii w (if b then sb y rows else 0) b):=by
 by_cases d:y.length=rows.length
 ·have h:=yeC C nc cc R nr a cost rows Y f c y w hc hr i d hg zy j;have e:ydS nc cost rows y=b:=by rw[←g];unfold yep;rw[decide_eq_true d];rfl
  rw[e]at h;exact h
 ·have e:b=false:=by rw[←g];unfold yep;rw[decide_eq_false d];rfl
  subst e;exact yeB C nc cc R nr a cost rows Y f c y w hc hr i d
theorem yi8(C:OA)(nc cc:Nat)(R:OA)(nr a:Nat)(cost:List Rat)(rows:List PRow)(X:OA)(d c:Nat)(x:List Rat)(w:World)(hc:VecS w 0 (.slice C nc cc) cost)(hr:RowsS w 0 (.slice R nr a) rows)(g:VecS w 0 (.slice X d c) x)(hg:Good nc nr cost rows)(zx:Sm x)(b:Bool)(f:znD cost rows x=b) :
  Calls Tryz.prog 45 #[.agg #[.slice C nc cc,.slice R nr a],.slice X d c] w fun e w'=>e=.returned (.bool b)∧Below w.heap.size w w':=by
 rw[←f];exact Pb.fits C nc cc R nr a cost rows X d c x w hc hr g (Nat.le_trans hg.hc (by decide)) hg.rw_ zx (Nat.le_trans hg.hr (by decide))
theorem yi7(C:OA)(nc cc:Nat)(R:OA)(nr b:Nat)(cost:List Rat)(rows:List PRow)(X:OA)(g f:Nat)(x:List Rat)(Y:OA)(l k:Nat)(y:List Rat)(w:World)(hc:VecS w 0 (.slice C nc cc) cost)(hr:RowsS w 0 (.slice R nr b) rows)(K:VecS w 0 (.slice X g f) x)(L:VecS w 0 (.slice Y l k) y)(hg:Good nc nr cost rows)(zy:Sm y)(zx:Sm x)(B:cost.length=nc) :
  Calls Tryz.prog 17 #[.agg #[.slice C nc cc,.slice R nr b],.slice X g f,.slice Y l k] w fun e w'=>e=.returned (.bool (yeG nc cost rows x y))∧Below w.heap.size w w':=by
 have d:=hid hg;have J:=hid zy;have z:=hid zx;have F:=hid B;have Z:=hid (show 4*(mw (sb y rows)+mw (dot cost x))+8≤LIM by have:=yeX hg.rw_ zy (by rw[←hr.len];exact hg.hr);have:=zDI hg.sc zx (by rw[B];have:=hg.hc;omega);have:=zaP;omega);generalize hob:yeG nc cost rows x y=ob;have u:=hid hob;clear hg zy zx B hob;obtain⟨W,c⟩:∃W,(w.alloc (.cells #[.slice C nc cc,.slice R nr b] 31))=W:=⟨_,rfl⟩
 have v:=hid (show W.heap[w.heap.size]? = some (.cells #[.slice C nc cc,.slice R nr b] 31 (0,0))by rw[←c];exact zam (by simp));have q:=hid (show Below w.heap.size w W by rw[←c];exact zae w _);have r:=hid (show VecS W 0 (.slice C nc cc) cost by rw[←c];exact(hc).alloc _);have s:=hid (show RowsS W 0 (.slice R nr b) rows by rw[←c];exact(hr).alloc _);have H:=hid (show VecS W 0 (.slice X g f) x by rw[←c];exact(K).alloc _);have I:=hid (show VecS W 0 (.slice Y l k) y by rw[←c];exact(L).alloc _)
 obtain⟨ak,_,al,_⟩:=bc2 v.out;clear hc hr K L;go_enter Tryz.func17,Tryz.ntmps17;go_wp2_with fail
 clear c;cases hbb:yep nc cost rows y
 ·have j:=hid (show ob=false by rw[←u.out];exact yeH (.inl hbb));with_reducible refine(bounds_is C nc cc R nr b cost rows Y l k y _ r.out s.out I.out d.out J.out F.out false hbb).mono ?_
  rintro e w1 ⟨g2,A2,m2,c2,D2,md2,cd2,rfl,hn,hb⟩;have a:=(hb).alloc (hb).size (.cells #[.bool g2,.slice A2 m2 c2,.slice D2 md2 cd2] 47);have m:=hid (zad a v.out);have p:=hid (r.out.below a);have o:=hid (s.out.below a);have n:=hid (H.out.below a);have i:=hid (q.out.trans ((a).mono q.out.size));have D:=hid (zal w1 #[.bool g2,.slice A2 m2 c2,.slice D2 md2 cd2] 47);obtain⟨ac,_,ad,_⟩:=bc2 m.out;clear hn hb;go_wp2;go_ret
  exact⟨by rw[j.out];first | done | rfl,i.out⟩
 ·skip
  with_reducible refine(bounds_is C nc cc R nr b cost rows Y l k y _ r.out s.out I.out d.out J.out F.out true hbb).mono ?_
  rintro e w1 ⟨g2,A2,m2,c2,D2,md2,cd2,rfl,hn,hb⟩;have a:=(hb).alloc (hb).size (.cells #[.bool g2,.slice A2 m2 c2,.slice D2 md2 cd2] 47);have m:=hid (zad a v.out);have p:=hid (r.out.below a);have o:=hid (s.out.below a);have n:=hid (H.out.below a);have G:=hid (show RatS (w1.alloc (.cells #[.bool g2,.slice A2 m2 c2,.slice D2 md2 cd2] 47)) g2 (.slice A2 m2 c2) (.slice D2 md2 cd2) (sb y rows)from(hn).alloc _);have i:=hid (q.out.trans ((a).mono q.out.size))
  have D:=hid (zal w1 #[.bool g2,.slice A2 m2 c2,.slice D2 md2 cd2] 47);obtain⟨ac,_,ad,_⟩:=bc2 m.out;clear hn hb;go_wp2_with fail
  cases hf:znD cost rows x
  ·have j:=hid (show ob=false by rw[←u.out];exact yeH (.inr hf));with_reducible refine(yi8 C nc cc R nr b cost rows X g f x _ p.out o.out n.out d.out z.out false hf).mono ?_
   rintro e w2 ⟨rfl,hb⟩;have E:=hid (zad hb m.out);have P:=hid (zad hb D.out);have O:=hid (p.out.below hb);have S:=hid (o.out.below hb);have T:=hid (n.out.below hb);have N:=hid (G.out.below hb);have t:=hid (i.out.trans ((hb).mono i.out.size));obtain⟨ae,_,af,_⟩:=bc2 E.out;clear hb;go_wp2;go_ret
   exact⟨by rw[j.out];first | done | rfl,t.out⟩
  ·have j:=hid (show zA9 (sb y rows) (dot cost x)=ob by rw[←u.out];unfold yeG;rw[hbb,hf];rfl);have V:=hid (show cost.length=x.length from(ydT.1 hf).1.symm);with_reducible refine(yi8 C nc cc R nr b cost rows X g f x _ p.out o.out n.out d.out z.out true hf).mono ?_
   rintro e w2 ⟨rfl,hb⟩;have E:=hid (zad hb m.out);have P:=hid (zad hb D.out);have O:=hid (p.out.below hb);have S:=hid (o.out.below hb);have T:=hid (n.out.below hb);have N:=hid (G.out.below hb);have t:=hid (i.out.trans ((hb).mono i.out.size));obtain⟨ae,_,af,_⟩:=bc2 E.out;clear hb;go_wp2_with fail
   with_reducible refine(zPu C nc cc R nr b cost rows X g f x _ O.out S.out T.out V.out (Nat.le_trans d.out.hc (by decide)) d.out.sc z.out).mono ?_
   rintro e M ⟨g3,A3,m3,c3,D3,md3,cd3,rfl,hn,hb⟩;have A:=(hb).alloc (hb).size (.cells #[.bool g3,.slice A3 m3 c3,.slice D3 md3 cd3] 47);have ah:=hid (zad A P.out);have ab:=hid (N.out.below A);have U:=hid (show RatS (M.alloc (.cells #[.bool g3,.slice A3 m3 c3,.slice D3 md3 cd3] 47)) g3 (.slice A3 m3 c3) (.slice D3 md3 cd3) (dot cost x)from(hn).alloc _);have Q:=hid (t.out.trans ((A).mono t.out.size));have ai:=hid (zal M #[.bool g3,.slice A3 m3 c3,.slice D3 md3 cd3] 47)
   obtain⟨am,_,an,_,ao,_⟩:=bc3 ah.out;obtain⟨ap,_,aq,_,ar,_⟩:=bc3 ai.out;clear hn hb;go_wp2_with fail
   with_reducible refine(Rt.same g2 A2 m2 c2 D2 md2 cd2 (sb y rows) g3 A3 m3 c3 D3 md3 cd3 (dot cost x) _ ab.out U.out Z.out).mono ?_
   rintro e w4 ⟨rfl,hb⟩;have ag:=hid (Q.out.trans ((hb).mono Q.out.size));clear hb;go_wp2;go_ret
   exact⟨by rw[j.out];first | done | rfl,ag.out⟩
theorem optimal(C:OA)(nc cc:Nat)(R:OA)(nr a:Nat)(cost:List Rat)(rows:List PRow)(X:OA)(d b:Nat)(x:List Rat)(Y:OA)(f c:Nat)(y:List Rat)(w:World)(hc:VecS w 0 (.slice C nc cc) cost)(hr:RowsS w 0 (.slice R nr a) rows)(m:VecS w 0 (.slice X d b) x)(n:VecS w 0 (.slice Y f c) y)(l:y.length=rows.length)(hg:Good nc nr cost rows)(zy:Sm y)(zx:Sm x)(i:cost.length=nc)(g:ydS nc cost rows y=true)(k:znD cost rows x=true)(_:cost.length=x.length)(j:sb y rows=dot cost x) :
  Calls Tryz.prog 17 #[.agg #[.slice C nc cc,.slice R nr a],.slice X d b,.slice Y f c] w fun e w'=>e=.returned (.bool true)∧Below w.heap.size w w':=by
 have h:=yi7 C nc cc R nr a cost rows X d b x Y f c y w hc hr m n hg zy zx i;rw[show yeG nc cost rows x y=true by unfold yeG yep;rw[g,k,decide_eq_true l,decide_eq_true j];rfl]at h;exact h
theorem infeasible_is(C:OA)(nc cc:Nat)(R:OA)(nr d:Nat)(cost:List Rat)(rows:List PRow)(Y:OA)(i f:Nat)(y:List Rat)(w:World)(hc:VecS w 0 (.slice C nc cc) cost)(hr:RowsS w 0 (.slice R nr d) rows)(E:VecS w 0 (.slice Y i f) y)(hg:Good nc nr cost rows)(zy:Sm y) :
  Calls Tryz.prog 12 #[.agg #[.slice C nc cc,.slice R nr d],.slice Y i f] w fun e w'=>e=.returned (.bool (yeD nc rows y))∧Below w.heap.size w w':=by
 have a:=hid hg;have D:=hid zy;have P:=hid (show rows.length≤4 by rw[←hr.len];exact hg.hr);generalize hob:yeD nc rows y=ob;have j:=hid hob;clear hg zy hob;obtain⟨W,g⟩:∃W,(w.alloc (.cells #[.slice C nc cc,.slice R nr d] 31))=W:=⟨_,rfl⟩
 have u:=hid (show W.heap[w.heap.size]? = some (.cells #[.slice C nc cc,.slice R nr d] 31 (0,0))by rw[←g];exact zam (by simp));have m:=hid (show Below w.heap.size w W by rw[←g];exact zae w _);have n:=hid (show VecS W 0 (.slice C nc cc) cost by rw[←g];exact(hc).alloc _);have p:=hid (show RowsS W 0 (.slice R nr d) rows by rw[←g];exact(hr).alloc _);have r:=hid (show VecS W 0 (.slice Y i f) y by rw[←g];exact(E).alloc _);obtain⟨av,_,aw,_⟩:=bc2 u.out;clear hc hr E;go_enter Tryz.func12,Tryz.ntmps12
 go_wp2_with fail
 clear g;by_cases v:y.length=rows.length
 ·have o:=hid v;with_reducible refine(yeN C nc cc R nr d cost rows Y i f y _ n.out p.out r.out o.out a.out.hr (Nat.le_trans a.out.hc (by decide)) a.out.rw_ D.out).mono ?_
  rintro e w1 ⟨S2,ns2,cs2,g2,A2,m2,c2,D2,md2,cd2,rfl,hv,hn,hb⟩;have b:=(hb).alloc (hb).size (.cells #[.bool g2,.slice A2 m2 c2,.slice D2 md2 cd2] 47);have t:=hid (zad b u.out);have B:=hid (n.out.below b);have z:=hid (p.out.below b);have L:=hid (r.out.below b);have Q:=hid (show VecS (w1.alloc (.cells #[.bool g2,.slice A2 m2 c2,.slice D2 md2 cd2] 47)) 0 (.slice S2 ns2 cs2) (sv nc y rows)from((hv.base (Nat.zero_le _))).alloc _)
  have O:=hid (show RatS (w1.alloc (.cells #[.bool g2,.slice A2 m2 c2,.slice D2 md2 cd2] 47)) g2 (.slice A2 m2 c2) (.slice D2 md2 cd2) (sb y rows)from(hn).alloc _);have s:=hid (m.out.trans ((b).mono m.out.size));have G:=hid (zal w1 #[.bool g2,.slice A2 m2 c2,.slice D2 md2 cd2] 47);obtain⟨af,_,ag,_⟩:=bc2 t.out;clear hv hn hb;go_wp2_with fail
  with_reducible refine(Pb.may C nc cc R nr d cost rows _ B.out z.out a.out.hc (Nat.le_trans a.out.hr (by decide)) a.out.rw_ a.out.kd).mono ?_
  rintro e w2 ⟨rfl,hb⟩;have ae:=hid (zad hb t.out);have ah:=hid (zad hb G.out);have ab:=hid (B.out.below hb);have ao:=hid (z.out.below hb);have aa:=hid (L.out.below hb);have am:=hid (Q.out.below hb);have Z:=hid (O.out.below hb);have H:=hid (s.out.trans ((hb).mono s.out.size));obtain⟨ax,_,ay,_⟩:=bc2 ae.out;clear hb;go_wp2_with fail
  with_reducible refine(signed C nc cc R nr d cost rows Y i f y _ ab.out ao.out aa.out o.out (Nat.le_trans a.out.hr (by decide))).mono ?_
  rintro e w3 ⟨rfl,hb⟩;have ak:=hid (zad hb ah.out);have an:=hid (am.out.below hb);have ad:=hid (Z.out.below hb);have x:=hid (H.out.trans ((hb).mono H.out.size));clear hb;cases hsg:zId rows y
  ·have c:=hid (show ob=false by rw[←j.out];unfold yeD yeu;rw[hsg];simp);go_wp2;go_ret
   exact⟨by rw[c.out];first | done | rfl,x.out⟩
  ·skip
   go_wp2_with fail
   with_reducible refine(Rt.int (-1) (by decide) (by decide) _).mono ?_
   rintro e T ⟨g3,A3,m3,c3,D3,md3,cd3,rfl,hn,hb⟩;have ai:=hid (zad hb ak.out);have K:=hid (an.out.below hb);have ac:=hid (ad.out.below hb);have M:=hid (show RatS T g3 (.slice A3 m3 c3) (.slice D3 md3 cd3) ((-1:Int):Rat)from hn);have I:=hid (x.out.trans ((hb).mono x.out.size));clear hn hb;go_wp2_with fail
   with_reducible refine(Vc.scale g3 A3 m3 c3 D3 md3 cd3 ((-1:Int):Rat) S2 ns2 cs2 (sv nc y rows) 0 _ K.out M.out (by rw[(K.out).len,yee a.out.rw_];have:=a.out.hc;omega) (yeT a.out.rw_ D.out P.out) (Nat.le_trans (zu9 _ (by constructor<;>decide)) (by decide))).mono ?_
   rintro e U ⟨T3,nt3,ct3,rfl,hv,hb⟩;have aj:=hid (zad hb ai.out);have X:=hid (ac.out.below hb);have N:=hid (show VecS U 0 (.slice T3 nt3 ct3) (scale ((-1:Int):Rat) (sv nc y rows))from(hv.base (Nat.zero_le _)));have J:=hid (I.out.trans ((hb).mono I.out.size));clear hv hb;go_wp2_with fail
   with_reducible refine(Vc.below T3 nt3 ct3 _ 0 _ N.out).mono ?_
   rintro e w6 ⟨rfl,hb⟩;have al:=hid (zad hb aj.out);have F:=hid (X.out.below hb);have l:=hid (J.out.trans ((hb).mono J.out.size));obtain⟨az,_,aA,_,aB,_⟩:=bc3 al.out;clear hb;cases hd:((scale ((-1:Int):Rat) (sv nc y rows)).any fun q=>decide (q<0))
   ·skip
    go_wp2_with fail
    by_cases k:0<sb y rows
    ·have c:=hid (show ob=true by rw[←j.out];unfold yeD yeu;rw[decide_eq_true o.out,hsg,hd,decide_eq_true k];rfl);have S:=(zPt (sb y rows)).2 k;with_reducible refine(Rt.sign g2 A2 m2 c2 D2 md2 cd2 (sb y rows) _ F.out).mono ?_
     rintro e V ⟨rfl,hb⟩;have A:=hid (l.out.trans ((hb).mono l.out.size));clear hb;go_wp2;go_ret
     exact⟨by rw[c.out];first | done | rfl,A.out⟩
    ·have c:=hid (show ob=false by rw[←j.out];unfold yeD yeu;rw[decide_eq_true o.out,hsg,hd,decide_eq_false k];rfl);have S:decide (0<(sb y rows).num.sign)=false:=decide_eq_false fun h=>k ((zPt (sb y rows)).1 h)
     have ap:decide (0<(sb y rows).num)=false:=decide_eq_false fun h=>k ((zPs (sb y rows)).1 h)
     with_reducible refine(Rt.sign g2 A2 m2 c2 D2 md2 cd2 (sb y rows) _ F.out).mono ?_
     rintro e V ⟨rfl,hb⟩;have A:=hid (l.out.trans ((hb).mono l.out.size));clear hb;go_wp2;go_ret
     exact⟨by rw[c.out];first | done | rfl,A.out⟩
   ·have c:=hid (show ob=false by rw[←j.out];unfold yeD yeu;rw[hd];simp);go_wp2;go_ret
    exact⟨by rw[c.out];first | done | rfl,l.out⟩
 ·have c:=hid (show ob=false by rw[←j.out];unfold yeD;rw[decide_eq_false v];rfl);with_reducible refine(yeM C nc cc R nr d cost rows Y i f y _ n.out p.out r.out v).mono ?_
  rintro e w1 ⟨S2,ns2,cs2,g2,A2,m2,c2,D2,md2,cd2,rfl,hv,hn,hb⟩;have b:=(hb).alloc (hb).size (.cells #[.bool g2,.slice A2 m2 c2,.slice D2 md2 cd2] 47);have t:=hid (zad b u.out);have B:=hid (n.out.below b);have z:=hid (p.out.below b);have L:=hid (r.out.below b);have s:=hid (m.out.trans ((b).mono m.out.size));have G:=hid (zal w1 #[.bool g2,.slice A2 m2 c2,.slice D2 md2 cd2] 47);obtain⟨af,_,ag,_⟩:=bc2 t.out;clear hv hn hb;go_wp2;go_ret
  exact⟨by rw[c.out];first | done | rfl,s.out⟩
theorem infeasible(C:OA)(nc cc:Nat)(R:OA)(nr a:Nat)(cost:List Rat)(rows:List PRow)(Y:OA)(c b:Nat)(y:List Rat)(w:World)(hc:VecS w 0 (.slice C nc cc) cost)(hr:RowsS w 0 (.slice R nr a) rows)(j:VecS w 0 (.slice Y c b) y)(f:y.length=rows.length)(hg:Good nc nr cost rows)(zy:Sm y)(i:zId rows y=true)(d:((scale ((-1:Int):Rat) (sv nc y rows)).any fun q=>decide (q<0))=false)(g:0<sb y rows) :
  Calls Tryz.prog 12 #[.agg #[.slice C nc cc,.slice R nr a],.slice Y c b] w fun e w'=>e=.returned (.bool true)∧Below w.heap.size w w':=by
 have h:=infeasible_is C nc cc R nr a cost rows Y c b y w hc hr j hg zy;rw[show yeD nc rows y=true by unfold yeD yeu;rw[decide_eq_true f,i,d,decide_eq_true g];rfl]at h;exact h
