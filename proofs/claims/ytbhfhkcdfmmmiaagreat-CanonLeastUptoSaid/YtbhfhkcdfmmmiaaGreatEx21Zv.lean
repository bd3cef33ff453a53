/- Contracts and lemmas: Ex21 El21 Aw21. Conditions: as each says. -/
import Derived.Test.YtbhfhkcdfmmmiaaGreatCaSZv
set_option linter.all false
set_option maxHeartbeats 4000000
set_option maxRecDepth 100000
namespace Go.Proofs.YtbhfhkcdfmmmiaaGreat
open Go.RowKit Am Go.Proofs.Tryz
open Ca (solve yuw ytd)
open Lw (z6u)
variable {w:World}
def ys9 (x:Int):List Rat:=rats [1,x]
def ys4:List PRow:=[⟨rats [1,2],2,((4:Int):Rat)⟩,⟨rats [3,1],1,((9:Int):Rat)⟩]
def yte (o:COut) (f:List Nat→Bool):Bool:=match o with | .best _ G _=>f G | _=>false
theorem ytA{o:COut}{f:List Nat→Bool}(h:yte o f=true):∃c G n,o=.best c G n∧f G=true:=by
 unfold yte at h;split at h
 ·exact⟨_,_,_,rfl,h⟩
 ·cases h
theorem x_1:yte (ys3 4 2 2 (zc3 ys4) (zg8 ys4) (zjD (ys9 1) ys4) 100) (fun G=>decide (ytf 2 6 (zt0 (zc3 ys4) (zg8 ys4)) (zwh (zg8 ys4)) G=rats [0,2]))=true:=by decide +kernel
theorem x_2:yte (ys3 4 2 2 (zc3 ys4) (zg8 ys4) (zjD (ys9 2) ys4) 100) (fun G=>decide (ytf 2 6 (zt0 (zc3 ys4) (zg8 ys4)) (zwh (zg8 ys4)) G=rats [0,2]))=true:=by decide +kernel
theorem x_f:yte (yts 4 2 (zc3 ys4) (zg8 ys4) (zjD (ys9 2) ys4) 100 [2,3]) (fun G=>decide (ytf 2 4 (zc3 ys4) (zg8 ys4) G=rats [0,2]))=true:=by decide +kernel
theorem yun:(zdi (zaC 4 (zc3 ys4) [2,3] (zjD (ys9 2) ys4)) (List.replicate 4 true)).isNone=true:=by decide +kernel
theorem yvr:dot (ys9 1) (rats [0,2])=Rat.divInt 2 1:=by decide +kernel
theorem yvo:dot (ys9 2) (rats [0,2])=Rat.divInt 4 1:=by decide +kernel
theorem yvq(x:Int)(h:mw ((x:Int):Rat)≤1):S1 (ys9 x):=fun q a=>by
 rcases List.mem_cons.1 a with rfl | a
 ·decide +kernel
 ·rcases List.mem_cons.1 a with rfl | a
  ·exact h
  ·cases a
theorem ytL(x:Int)(h:mw ((x:Int):Rat)≤1):Good1 2 2 (ys9 x) ys4:=⟨by decide,by decide,yvq x h,by unfold S1;decide +kernel,by unfold Kinds;decide +kernel⟩
theorem yum:2+cnt ys4 2=4:=by decide
theorem yul:Basis 2 4 (zc3 ys4) [2,3]:=zqz (n:=2) (rows:=ys4) (by decide +kernel) (by decide +kernel)
theorem zqh{α:Type}{o:Option α}(h:o.isNone=true):o=none:=by cases o;rfl;cases h
theorem zoI{u:World}{b:Nat}(a:u.heap.size=b)(x y:Nat):IntsS (u.alloc (.cells #[(x:Int),(y:Int)] 3)) 0 (.slice (some ⟨b,0,none⟩) 2 2) [x,y]:=by
 subst a;exact⟨World.ownsRow_lit (e:=3) (size:=1) (base:=0) u #[(x:Int),(y:Int)] 2 (Nat.zero_le _) (by decide) rfl⟩
theorem yvk:∀q∈rats [0,2],mw q≤1:=by decide +kernel
theorem yt3(A:OA)(c:Nat)(B:OA)(a c':Nat)(w:World)(b:VecS w 0 (.slice A 2 c) (rats [0,2]))(d:VecS w 0 (B,a,c') (rats [0,2])) :
  Calls prog 42 #[.slice A 2 c,(B,a,c')] w fun e w'=>e=.returned true∧Below w w w':=by
 refine(Vc.same 1 (by rw[zaP];decide) A 2 c (rats [0,2]) 0 B a c' (rats [0,2]) 0 w b d yvk yvk).mono ?_;rintro e w' ⟨rfl,hb⟩;exact⟨by rw[decide_eq_true rfl],hb⟩
theorem yvl(p:Int)(d:I64 p)(hm:mw (Rat.divInt p 1)≤1000000)(g:Bool)(A:OA)(m c:Nat)(D:OA)(b a:Nat)(w:World)(h:RatS w g (A,m,c) (D,b,a) (Rat.divInt p 1)) :
  Calls prog 41 #[.agg #[g,(A,m,c),(D,b,a)],.int .i64 p,.int .i64 1] w fun e w'=>e=.returned true∧Below w w w' :=
 z6u g A m c D b a (Rat.divInt p 1) p 1 w h (by decide) d (by constructor<;>decide) rfl hm
theorem yvh(g:Bool)(A:OA)(m c:Nat)(D:OA)(b a:Nat)(w:World)(h:RatS w g (A,m,c) (D,b,a) (Rat.divInt 2 1)) :
  Calls prog 41 #[.agg #[g,(A,m,c),(D,b,a)],.int .i64 2,.int .i64 1] w fun e w'=>e=.returned true∧Below w w w':=yvl 2 (by constructor<;>decide) (by decide +kernel) g A m c D b a w h
theorem yvi(g:Bool)(A:OA)(m c:Nat)(D:OA)(b a:Nat)(w:World)(h:RatS w g (A,m,c) (D,b,a) (Rat.divInt 4 1)) :
  Calls prog 41 #[.agg #[g,(A,m,c),(D,b,a)],.int .i64 4,.int .i64 1] w fun e w'=>e=.returned true∧Below w w w':=yvl 4 (by constructor<;>decide) (by decide +kernel) g A m c D b a w h
def yuz (w:World) (v:Rat) (e:Ending) (w':World):Prop:=∃(g:Bool) (A:OA) (m c:Nat) (D:OA) (md cd:Nat) (P:OA) (cP n:Nat) (Ba:OA) (na ca:Nat),
  e=.returned (.tuple #[.agg #[.int .i64 1,g,(A,m,c),(D,md,cd),.slice P 2 cP],(n:Int),(Ba,na,ca),.nilIface])∧RatS w' g (A,m,c) (D,md,cd) v∧VecS w' 0 (.slice P 2 cP) (rats [0,2])∧Below w w w'
theorem ytb.x{d:Nat}{A:List (List Rat)}{b cost:List Rat}{B:Nat}{k:List Nat→List Nat}{o:COut}{v:Rat}(s:dot cost (rats [0,2])=v)(a:yte o (fun G=>decide (ytf 2 d A b G=rats [0,2]))=true)(e:Ending)(w':World)(h:ytb w 2 d A b cost B k o e w'):yuz w v e w':=by
 obtain⟨c,G,n,rfl,a⟩:=ytA a;obtain⟨q,g,Av,u,cv,j,t,p,P,l,i,y,m,r,hr,f,_⟩:=h;rw[of_decide_eq_true a]at hr f;rw[s]at hr;exact⟨g,Av,u,cv,j,t,p,P,l,n,i,y,m,r,hr,f.base (Nat.zero_le _),q⟩
namespace Lw
section
variable (C:OA) (cC:Nat) (R:OA) (cR:Nat) (w:World)
theorem yuj(hc:VecS w 0 (.slice C 2 cC) (ys9 1))(hr:RowsS w 0 (.slice R 2 cR) ys4):Calls prog 16 #[.agg #[.slice C 2 cC,.slice R 2 cR],.int .i64 100] w (yuz w (Rat.divInt 2 1)) :=
 (solve 1 C 2 cC R 2 cR (ys9 1) ys4 4 6 100 w hc hr (ytL 1 (by decide)).toS yum rfl (by decide)).mono (ytb.x yvr x_1)
theorem yuk(hc:VecS w 0 (.slice C 2 cC) (ys9 2))(hr:RowsS w 0 (.slice R 2 cR) ys4):Calls prog 16 #[.agg #[.slice C 2 cC,.slice R 2 cR],.int .i64 100] w (yuz w (Rat.divInt 4 1)) :=
 (solve 1 C 2 cC R 2 cR (ys9 2) ys4 4 6 100 w hc hr (ytL 2 (by decide)).toS yum rfl (by decide)).mono (ytb.x yvo x_2)
theorem yux(tA:OA)(hc:VecS w 0 (.slice C 2 cC) (ys9 2))(hr:RowsS w 0 (.slice R 2 cR) ys4)(a:IntsS w 0 (.slice tA 2 2) [2,3]):Calls prog 40 #[.agg #[.slice C 2 cC,.slice R 2 cR],.slice tA 2 2,.int .i64 100] w (yuz w (Rat.divInt 4 1)) :=
 (yuw 1 C 2 cC R 2 cR (ys9 2) ys4 4 100 tA 2 0 [2,3] w hc hr (ytL 2 (by decide)).toS yum (by decide) a yul (zqh yun)).mono (ytb.x yvo x_f)
end
end Lw
attribute [local go_sem ↓] Go.wp_at_zero Go.wp_at_succ
theorem RowsS.setX{H:Nat}{v:Value}{ps:List PRow}(h:RowsS w H v ps){a:Addr}{t:TypeId}{cs:Array Value}(hg:w.heap[a.block]? = some (.cells cs t (0,0)))(h1:165≠t)(e:41≠t)(f:43≠t)(u:Value):RowsS (w.setCell a u) H v ps:=by
 obtain⟨l,b,c,d⟩:=h.row;exact(RowsL.setT (l:=l) ⟨b,c,d⟩ hg h1 e f u).toS
namespace Lw
theorem ytF(w:World):Calls prog 39 #[.int .i64 1] w fun e w'=>∃(C:OA) (cC:Nat) (R:OA) (cR:Nat),e=.returned (.agg #[.slice C 2 cC,.slice R 2 cR])∧VecS w' 0 (.slice C 2 cC) (ys9 (1))∧RowsS w' 0 (.slice R 2 cR) ys4∧Below w w w':=by
 obtain⟨W,f⟩:∃W,(w.alloc (.cells #[(),()] 31))=W:=⟨_,rfl⟩
 have l:=un (show W.heap[w.heap.size]? = some (.cells #[(),()] 31 (0,0))by rw[←f];exact zam (by simp));have k:=un (show Below w w W by rw[←f];exact zae w _);go_enter func39,ntmps39;go_wp2_with fail
 clear f;have m:=zae W (.cells #[.int .i64 1,.int .i64 1] 3);have o:=un (zad m l.o);have g:=un (k.o.trans ((m).mono k.o.size));with_reducible refine(Vc.of W.heap.size 2 2 [1,1] _ rfl (zqg W (1) (1)) (by decide) (by decide) (by decide)).mono ?_
 rintro e w1 ⟨S1,ns1,cs1,rfl,hv,hb⟩;have n:=un (show(w1.alloc (.cells #[.int .i64 1,.int .i64 2] 3)).heap[w.heap.size]? = some (.cells #[(),()] 31 (0,0))from zak (zad hb o.o));have G:=un (show VecS (w1.alloc (.cells #[.int .i64 1,.int .i64 2] 3)) 0 (S1,ns1,cs1) (rats [1,1])from((hv.base (Nat.zero_le _))).alloc _)
 have q:=un (show Below w w (w1.alloc (.cells #[.int .i64 1,.int .i64 2] 3))from((g.o.trans ((hb).mono g.o.size))).alloc ((g.o.trans ((hb).mono g.o.size))).size _);clear hv hb;go_wp2_with fail
 with_reducible refine(Vc.of w1.heap.size 2 2 [1,2] _ rfl (zqg w1 (1) (2)) (by decide) (by decide) (by decide)).mono ?_
 rintro e L ⟨S2,ns2,cs2,rfl,hv,hb⟩;have s:=un (zad hb n.o);have ac:=un (G.o.below hb);have H:=un ((hv.base (Nat.zero_le _)));have i:=un (q.o.trans ((hb).mono q.o.size));clear hv hb;go_wp2_with fail
 with_reducible refine(Rt.int 4 (by decide) (by decide) _).mono ?_
 rintro e b ⟨g3,A3,m3,c3,D3,md3,cd3,rfl,hn,hb⟩;have t:=un (show(b.alloc (.cells #[.int .i64 3,.int .i64 1] 3)).heap[w.heap.size]? = some (.cells #[(),()] 31 (0,0))from zak (zad hb s.o));have ad:=un (show VecS (b.alloc (.cells #[.int .i64 3,.int .i64 1] 3)) 0 (S1,ns1,cs1) (rats [1,1])from(ac.o.below hb).alloc _);have V:=un (show VecS (b.alloc (.cells #[.int .i64 3,.int .i64 1] 3)) 0 (S2,ns2,cs2) (rats [1,2])from(H.o.below hb).alloc _)
 have D:=un (show RatS (b.alloc (.cells #[.int .i64 3,.int .i64 1] 3)) g3 (A3,m3,c3) (D3,md3,cd3) ((4:Int):Rat)from(hn).alloc _);have y:=un (show Below w w (b.alloc (.cells #[.int .i64 3,.int .i64 1] 3))from((i.o.trans ((hb).mono i.o.size))).alloc ((i.o.trans ((hb).mono i.o.size))).size _)
 clear hn hb;go_wp2_with fail
 with_reducible refine(Vc.of b.heap.size 2 2 [3,1] _ rfl (zqg b (3) (1)) (by decide) (by decide) (by decide)).mono ?_
 rintro e M ⟨S4,ns4,cs4,rfl,hv,hb⟩;have u:=un (zad hb t.o);have ae:=un (ad.o.below hb);have X:=un (V.o.below hb);have aa:=un (D.o.below hb);have I:=un ((hv.base (Nat.zero_le _)));have z:=un (y.o.trans ((hb).mono y.o.size));clear hv hb;go_wp2_with fail
 with_reducible refine(Rt.int 9 (by decide) (by decide) _).mono ?_
 rintro e c ⟨g5,A5,m5,c5,D5,md5,cd5,rfl,hn,hb⟩;have x:=un (zad hb u.o);have B:=un (ae.o.below hb);have Y:=un (X.o.below hb);have ab:=un (aa.o.below hb);have Z:=un (I.o.below hb);have E:=un (hn);have A:=un (z.o.trans ((hb).mono z.o.size));clear hn hb;obtain rfl:2=ns1:=B.o.len.symm
 have j:=zae c (.cells #[(S2,ns2,cs2),.int .i64 2,g3,(A3,m3,c3),(D3,md3,cd3),(S4,ns4,cs4),.int .i64 1,g5,(A5,m5,c5),(D5,md5,cd5)] 43);have d:=un (zad j x.o);have af:=un (B.o.below j)
 have F:=un (show RowsS (c.alloc (.cells #[(S2,ns2,cs2),.int .i64 2,g3,(A3,m3,c3),(D3,md3,cd3),(S4,ns4,cs4),.int .i64 1,g5,(A5,m5,c5),(D5,md5,cd5)] 43)) 0 (.slice (some ⟨c,0,none⟩) 2 2) ys4 from(zoX rfl (r:=⟨.slice S2 ns2 cs2,2,g3,.slice A3 m3 c3,.slice D3 md3 cd3⟩) (r':=⟨.slice S4 ns4 cs4,1,g5,.slice A5 m5 c5,.slice D5 md5 cd5⟩) (p:=⟨rats [1,2],2,((4:Int):Rat)⟩) (p':=⟨rats [3,1],1,((9:Int):Rat)⟩) ⟨Y.o,rfl,ab.o⟩ ⟨Z.o,rfl,E.o⟩))
 have U:=un (A.o.trans ((j).mono A.o.size));obtain⟨S,P,bn,_,T,Q,bo,_⟩:=bf2 d.o;go_wp2;refine bodyPost_ret (v:=.agg #[.slice S1 2 cs1,.slice (some ⟨c,0,none⟩) 2 2]) (by simp[results,results39,go_sem,S,P,T,Q]) rfl ?_;have h1:=(af.o.setT (p:=⟨w,0,none⟩) d.o (by decide) (by decide) (.slice S1 2 cs1)).setT (p:=⟨w,1,none⟩) (zar _ d.o) (by decide) (by decide) (.slice (some ⟨c,0,none⟩) 2 2)
 have K:=(F.o.setX (a:=⟨w,0,none⟩) d.o (by decide) (by decide) (by decide) (.slice S1 2 cs1)).setX (a:=⟨w,1,none⟩) (zar _ d.o) (by decide) (by decide) (by decide) (.slice (some ⟨c,0,none⟩) 2 2);exact⟨S1,cs1,some ⟨c,0,none⟩,2,rfl,h1,K,bsc (bsc U.o)⟩
theorem ytp(w:World):Calls prog 39 #[.int .i64 2] w fun e w'=>∃(C:OA) (cC:Nat) (R:OA) (cR:Nat),e=.returned (.agg #[.slice C 2 cC,.slice R 2 cR])∧VecS w' 0 (.slice C 2 cC) (ys9 (2))∧RowsS w' 0 (.slice R 2 cR) ys4∧Below w w w':=by
 obtain⟨W,f⟩:∃W,(w.alloc (.cells #[(),()] 31))=W:=⟨_,rfl⟩
 have l:=un (show W.heap[w.heap.size]? = some (.cells #[(),()] 31 (0,0))by rw[←f];exact zam (by simp));have k:=un (show Below w w W by rw[←f];exact zae w _);go_enter func39,ntmps39;go_wp2_with fail
 clear f;have m:=zae W (.cells #[.int .i64 1,.int .i64 2] 3);have o:=un (zad m l.o);have g:=un (k.o.trans ((m).mono k.o.size));with_reducible refine(Vc.of W.heap.size 2 2 [1,2] _ rfl (zqg W (1) (2)) (by decide) (by decide) (by decide)).mono ?_
 rintro e w1 ⟨S1,ns1,cs1,rfl,hv,hb⟩;have n:=un (show(w1.alloc (.cells #[.int .i64 1,.int .i64 2] 3)).heap[w.heap.size]? = some (.cells #[(),()] 31 (0,0))from zak (zad hb o.o));have G:=un (show VecS (w1.alloc (.cells #[.int .i64 1,.int .i64 2] 3)) 0 (S1,ns1,cs1) (rats [1,2])from((hv.base (Nat.zero_le _))).alloc _)
 have q:=un (show Below w w (w1.alloc (.cells #[.int .i64 1,.int .i64 2] 3))from((g.o.trans ((hb).mono g.o.size))).alloc ((g.o.trans ((hb).mono g.o.size))).size _);clear hv hb;go_wp2_with fail
 with_reducible refine(Vc.of w1.heap.size 2 2 [1,2] _ rfl (zqg w1 (1) (2)) (by decide) (by decide) (by decide)).mono ?_
 rintro e L ⟨S2,ns2,cs2,rfl,hv,hb⟩;have s:=un (zad hb n.o);have ac:=un (G.o.below hb);have H:=un ((hv.base (Nat.zero_le _)));have i:=un (q.o.trans ((hb).mono q.o.size));clear hv hb;go_wp2_with fail
 with_reducible refine(Rt.int 4 (by decide) (by decide) _).mono ?_
 rintro e b ⟨g3,A3,m3,c3,D3,md3,cd3,rfl,hn,hb⟩;have t:=un (show(b.alloc (.cells #[.int .i64 3,.int .i64 1] 3)).heap[w.heap.size]? = some (.cells #[(),()] 31 (0,0))from zak (zad hb s.o));have ad:=un (show VecS (b.alloc (.cells #[.int .i64 3,.int .i64 1] 3)) 0 (S1,ns1,cs1) (rats [1,2])from(ac.o.below hb).alloc _);have V:=un (show VecS (b.alloc (.cells #[.int .i64 3,.int .i64 1] 3)) 0 (S2,ns2,cs2) (rats [1,2])from(H.o.below hb).alloc _)
 have D:=un (show RatS (b.alloc (.cells #[.int .i64 3,.int .i64 1] 3)) g3 (A3,m3,c3) (D3,md3,cd3) ((4:Int):Rat)from(hn).alloc _);have y:=un (show Below w w (b.alloc (.cells #[.int .i64 3,.int .i64 1] 3))from((i.o.trans ((hb).mono i.o.size))).alloc ((i.o.trans ((hb).mono i.o.size))).size _)
 clear hn hb;go_wp2_with fail
 with_reducible refine(Vc.of b.heap.size 2 2 [3,1] _ rfl (zqg b (3) (1)) (by decide) (by decide) (by decide)).mono ?_
 rintro e M ⟨S4,ns4,cs4,rfl,hv,hb⟩;have u:=un (zad hb t.o);have ae:=un (ad.o.below hb);have X:=un (V.o.below hb);have aa:=un (D.o.below hb);have I:=un ((hv.base (Nat.zero_le _)));have z:=un (y.o.trans ((hb).mono y.o.size));clear hv hb;go_wp2_with fail
 with_reducible refine(Rt.int 9 (by decide) (by decide) _).mono ?_
 rintro e c ⟨g5,A5,m5,c5,D5,md5,cd5,rfl,hn,hb⟩;have x:=un (zad hb u.o);have B:=un (ae.o.below hb);have Y:=un (X.o.below hb);have ab:=un (aa.o.below hb);have Z:=un (I.o.below hb);have E:=un (hn);have A:=un (z.o.trans ((hb).mono z.o.size));clear hn hb;obtain rfl:2=ns1:=B.o.len.symm
 have j:=zae c (.cells #[(S2,ns2,cs2),.int .i64 2,g3,(A3,m3,c3),(D3,md3,cd3),(S4,ns4,cs4),.int .i64 1,g5,(A5,m5,c5),(D5,md5,cd5)] 43);have d:=un (zad j x.o);have af:=un (B.o.below j)
 have F:=un (show RowsS (c.alloc (.cells #[(S2,ns2,cs2),.int .i64 2,g3,(A3,m3,c3),(D3,md3,cd3),(S4,ns4,cs4),.int .i64 1,g5,(A5,m5,c5),(D5,md5,cd5)] 43)) 0 (.slice (some ⟨c,0,none⟩) 2 2) ys4 from(zoX rfl (r:=⟨.slice S2 ns2 cs2,2,g3,.slice A3 m3 c3,.slice D3 md3 cd3⟩) (r':=⟨.slice S4 ns4 cs4,1,g5,.slice A5 m5 c5,.slice D5 md5 cd5⟩) (p:=⟨rats [1,2],2,((4:Int):Rat)⟩) (p':=⟨rats [3,1],1,((9:Int):Rat)⟩) ⟨Y.o,rfl,ab.o⟩ ⟨Z.o,rfl,E.o⟩))
 have U:=un (A.o.trans ((j).mono A.o.size));obtain⟨S,P,bn,_,T,Q,bo,_⟩:=bf2 d.o;go_wp2;refine bodyPost_ret (v:=.agg #[.slice S1 2 cs1,.slice (some ⟨c,0,none⟩) 2 2]) (by simp[results,results39,go_sem,S,P,T,Q]) rfl ?_;have h1:=(af.o.setT (p:=⟨w,0,none⟩) d.o (by decide) (by decide) (.slice S1 2 cs1)).setT (p:=⟨w,1,none⟩) (zar _ d.o) (by decide) (by decide) (.slice (some ⟨c,0,none⟩) 2 2)
 have K:=(F.o.setX (a:=⟨w,0,none⟩) d.o (by decide) (by decide) (by decide) (.slice S1 2 cs1)).setX (a:=⟨w,1,none⟩) (zar _ d.o) (by decide) (by decide) (by decide) (.slice (some ⟨c,0,none⟩) 2 2);exact⟨S1,cs1,some ⟨c,0,none⟩,2,rfl,h1,K,bsc (bsc U.o)⟩
end Lw
open Ca (ytd)
theorem yuy(g:Bool)(A:OA)(m c:Nat)(D:OA)(l j:Nat)(P:OA)(f:Nat)(g':Bool)(a:OA)(m' c':Nat)(b:OA)(n k:Nat)(d:OA)(i:Nat)(w:World)(o:RatS w g (A,m,c) (D,l,j) (Rat.divInt 4 1))(q:VecS w 0 (.slice P 2 f) (rats [0,2]))(p:RatS w g' (a,m',c') (b,n,k) (Rat.divInt 4 1))(r:VecS w 0 (.slice d 2 i) (rats [0,2])) :
  Calls prog 17 #[.agg #[.int .i64 1,g,(A,m,c),(D,l,j),.slice P 2 f],.agg #[.int .i64 1,g',(a,m',c'),(b,n,k),.slice d 2 i]] w fun e w'=>e=.returned true∧Below w w w' :=
 ytd 1 (by rw[zaP];decide) 1 (Rat.divInt 4 1) (rats [0,2]) g A m c D l j P 2 f g' a m' c' b n k d 2 i w o q p r (by rw[zaP];decide +kernel) yvk
namespace Lw
theorem yt6(w:World):Calls prog 10 #[] w fun e w'=>e=.returned true∧Below w w w':=by
 have q:=un (Below.refl w.heap.size w);have hW:w=w:=rfl;go_enter func10,ntmps10;go_wp2_with fail
 clear hW;with_reducible refine(ytF _).mono ?_
 rintro e u1 ⟨C1,cC1,R1,cR1,rfl,hc,hr,hb⟩;have I:=un (hc);have T:=un (show RowsS u1 0 (.slice R1 2 cR1) ys4 from hr);have A:=un (q.o.trans ((hb).mono q.o.size));clear hc hr hb;go_wp2_with fail
 with_reducible refine(yuj C1 cC1 R1 cR1 _ I.o T.o).mono ?_
 rintro e v1 ⟨g1,A1,m1,c1,D1,md1,cd1,P1,cP1,n1,Ba1,na1,ca1,rfl,hq,hp,hb⟩;have P:=un (show RatS v1 g1 (A1,m1,c1) (D1,md1,cd1) (Rat.divInt 2 1)from hq);have M:=un (show VecS v1 0 (.slice P1 2 cP1) (rats [0,2])from hp);have B:=un (A.o.trans ((hb).mono A.o.size));clear hq hp hb;have p:=zae v1 (.cells #[.int .i64 1,g1,(A1,m1,c1),(D1,md1,cd1),.slice P1 2 cP1] 49);have aD:=un (P.o.below p);have ay:=un (M.o.below p)
 have D:=un (B.o.trans ((p).mono B.o.size));have X:=un (zal v1 #[.int .i64 1,g1,(A1,m1,c1),(D1,md1,cd1),.slice P1 2 cP1] 49);go_wp2_with fail
 with_reducible refine(ytp _).mono ?_
 rintro e u2 ⟨C2,cC2,R2,cR2,rfl,hc,hr,hb⟩;have bb:=un (zad hb X.o);have aE:=un (aD.o.below hb);have aO:=un (ay.o.below hb);have J:=un (show VecS u2 0 (.slice C2 2 cC2) (ys9 2)from hc);have U:=un (show RowsS u2 0 (.slice R2 2 cR2) ys4 from hr);have E:=un (D.o.trans ((hb).mono D.o.size));clear hc hr hb;go_wp2_with fail
 with_reducible refine(yuk C2 cC2 R2 cR2 _ J.o U.o).mono ?_
 rintro e c ⟨g2,A2,m2,c2,D2,md2,cd2,P2,cP2,n2,Ba2,na2,ca2,rfl,hq,hp,hb⟩;have bc:=un (zad hb bb.o);have aF:=un (aE.o.below hb);have aP:=un (aO.o.below hb);have Q:=un (show RatS c g2 (A2,m2,c2) (D2,md2,cd2) (Rat.divInt 4 1)from hq);have N:=un (show VecS c 0 (.slice P2 2 cP2) (rats [0,2])from hp);have F:=un (E.o.trans ((hb).mono E.o.size));clear hq hp hb;have o:=zae c (.cells #[.int .i64 1,g2,(A2,m2,c2),(D2,md2,cd2),.slice P2 2 cP2] 49)
 have bd:=un (zad o bc.o);have aG:=un (aF.o.below o);have aQ:=un (aP.o.below o);have au:=un (Q.o.below o);have aA:=un (N.o.below o);have G:=un (F.o.trans ((o).mono F.o.size));have Y:=un (zal c #[.int .i64 1,g2,(A2,m2,c2),(D2,md2,cd2),.slice P2 2 cP2] 49);go_wp2_with fail
 with_reducible refine(ytp _).mono ?_
 rintro e g ⟨C3,cC3,R3,cR3,rfl,hc,hr,hb⟩;have be:=un (zad hb bd.o);have bg:=un (zad hb Y.o);have aH:=un (aG.o.below hb);have aR:=un (aQ.o.below hb);have an:=un (au.o.below hb);have aV:=un (aA.o.below hb);have K:=un (show VecS g 0 (.slice C3 2 cC3) (ys9 2)from hc);have V:=un (show RowsS g 0 (.slice R3 2 cR3) ys4 from hr);have H:=un (G.o.trans ((hb).mono G.o.size));clear hc hr hb;have f:=zae g (.cells #[.int .i64 2,.int .i64 3] 3);have bf:=un (zad f be.o)
 have aN:=un (zad f bg.o);have aI:=un (aH.o.below f);have aS:=un (aR.o.below f);have ao:=un (an.o.below f);have aB:=un (aV.o.below f);have ax:=un (K.o.below f);have aw:=un (V.o.below f);have x:=un (H.o.trans ((f).mono H.o.size));have L:=un (show IntsS (g.alloc (.cells #[.int .i64 2,.int .i64 3] 3)) 0 (.slice (some ⟨g,0,none⟩) 2 2) [2,3]from zoI rfl 2 3);go_wp2_with fail
 with_reducible refine(yux C3 cC3 R3 cR3 _ (some ⟨g,0,none⟩) ax.o aw.o L.o).mono ?_
 rintro e b ⟨g3,A3,m3,c3,D3,md3,cd3,P3,cP3,n3,Ba3,na3,ca3,rfl,hq,hp,hb⟩;have aT:=un (zad hb bf.o);have aU:=un (zad hb aN.o);have ar:=un (aI.o.below hb);have az:=un (aS.o.below hb);have av:=un (ao.o.below hb);have aC:=un (aB.o.below hb);have S:=un (show RatS b g3 (A3,m3,c3) (D3,md3,cd3) (Rat.divInt 4 1)from hq);have O:=un (show VecS b 0 (.slice P3 2 cP3) (rats [0,2])from hp);have y:=un (x.o.trans ((hb).mono x.o.size));clear hq hp hb
 have d:=zae b (.cells #[.int .i64 1,g3,(A3,m3,c3),(D3,md3,cd3),.slice P3 2 cP3] 49);have a5:=un (zad d aT.o);have a6:=un (zad d aU.o);have aL:=un (ar.o.below d);have aJ:=un (az.o.below d);have u:=un (av.o.below d);have v:=un (aC.o.below d);have aM:=un (S.o.below d);have aK:=un (O.o.below d);have z:=un (y.o.trans ((d).mono y.o.size));have Z:=un (zal b #[.int .i64 1,g3,(A3,m3,c3),(D3,md3,cd3),.slice P3 2 cP3] 49);go_wp2_with fail
 generalize hwa:(b.alloc (.cells #[.int .i64 1,g3,(A3,m3,c3),(D3,md3,cd3),.slice P3 2 cP3] 49))=wa at *
 clear hwa;obtain⟨aW,br,aX,bs,a7,bo,ap,bp,aq,bq⟩:=bc5 a5.o;obtain⟨aY,bt,aZ,bu,a8,bB,a9,bC,ba,bD⟩:=bc5 a6.o;obtain⟨a0,bv,a1,bw,a2,bx,a3,bz,a4,bA⟩:=bc5 Z.o
 have W:=un (show ∀w',Below wa wa w'→((w'.cell? ⟨v1,0,none⟩=some (.int .i64 1)∧w'.cell? ⟨v1,1,none⟩=some (.bool g1)∧w'.cell? ⟨v1,2,none⟩=some (A1,m1,c1)∧w'.cell? ⟨v1,3,none⟩=some (D1,md1,cd1)∧w'.cell? ⟨v1,4,none⟩=some (.slice P1 2 cP1)∧w'.cell? ⟨c,0,none⟩=some (.int .i64 1)∧w'.cell? ⟨c,1,none⟩=some (.bool g2)∧w'.cell? ⟨c,2,none⟩=some (A2,m2,c2)∧w'.cell? ⟨c,3,none⟩=some (D2,md2,cd2)∧w'.cell? ⟨c,4,none⟩=some (.slice P2 2 cP2)∧w'.cell? ⟨b,0,none⟩=some (.int .i64 1)∧w'.cell? ⟨b,1,none⟩=some (.bool g3)∧w'.cell? ⟨b,2,none⟩=some (A3,m3,c3)∧w'.cell? ⟨b,3,none⟩=some (D3,md3,cd3)∧w'.cell? ⟨b,4,none⟩=some (.slice P3 2 cP3))∧Below wa wa w')from fun w' h=>⟨⟨zab h aW,zab h aX,zab h a7,zab h ap,zab h aq,zab h aY,zab h aZ,zab h a8,zab h a9,zab h ba,zab h a0,zab h a1,zab h a2,zab h a3,zab h a4⟩,h⟩)
 go_region_held3 (fun w'=>((w'.cell? ⟨v1,0,none⟩=some (.int .i64 1)∧w'.cell? ⟨v1,1,none⟩=some (.bool g1)∧w'.cell? ⟨v1,2,none⟩=some (A1,m1,c1)∧w'.cell? ⟨v1,3,none⟩=some (D1,md1,cd1)∧w'.cell? ⟨v1,4,none⟩=some (.slice P1 2 cP1)∧w'.cell? ⟨c,0,none⟩=some (.int .i64 1)∧w'.cell? ⟨c,1,none⟩=some (.bool g2)∧w'.cell? ⟨c,2,none⟩=some (A2,m2,c2)∧w'.cell? ⟨c,3,none⟩=some (D2,md2,cd2)∧w'.cell? ⟨c,4,none⟩=some (.slice P2 2 cP2)∧w'.cell? ⟨b,0,none⟩=some (.int .i64 1)∧w'.cell? ⟨b,1,none⟩=some (.bool g3)∧w'.cell? ⟨b,2,none⟩=some (A3,m3,c3)∧w'.cell? ⟨b,3,none⟩=some (D3,md3,cd3)∧w'.cell? ⟨b,4,none⟩=some (.slice P3 2 cP3))∧Below wa wa w'))
  ((refine W.o _ ?_;repeat(first | exact Below.refl _ _ | exact(by assumption:_∧Below _ _ _).2 | with_reducible refine bdrew ?_ | with_reducible refine al2 ?_ _ | with_reducible refine set2 ?_ (by omega) | with_reducible refine zc1 ?_ (by assumption))))
  (first
   | (go_at_call 41;(with_reducible refine(yvh g1 A1 m1 c1 D1 md1 cd1 _ (aL.o.below (by assumption:_∧Below _ _ _).2)).mono ?_);rintro e u1 ⟨rfl,hb1⟩;have ac:=hb1.size;(try simp at ac);have bh:wa.heap.size≤u1.heap.size:=(by omega);(try((first | (have a:=un (zbc (cs:=#[.bool false,.slice none 0 0,.slice none 0 0]) (t:=41) hb1 a.o)) | (have a:=un (zbc (cs:=#[.bool false,.slice none 0 0,.slice none 0 0]) (t:=41) hb1 (zal _ _ _))));have i:=zac a.o 0;have l:=zag a.o 0;have j:=zac a.o 1;have m:=zag a.o 1;have k:=zac a.o 2;have n:=zag a.o 2)))
   | ((fail_if_success have ab:=r.o);(go_at_call 43;(with_reducible refine(Vc.of _ 2 2 [0,2] _ rfl (by repeat(first | with_reducible exact zyt (by simp) (0) (2) | with_reducible exact zyt rfl (0) (2) | with_reducible refine zuW ?_ | with_reducible refine zAV ?_)) (by decide) (by decide) (by decide)).mono ?_);rintro e u2 ⟨S22,ns22,cs22,rfl,hv,hb2⟩;have ad:=hb2.size;(try simp at ad);have bi:wa.heap.size≤u2.heap.size:=(by omega);(try((first | (have a:=un (zbc (cs:=#[.bool false,.slice none 0 0,.slice none 0 0]) (t:=41) hb2 a.o)) | (have a:=un (zbc (cs:=#[.bool false,.slice none 0 0,.slice none 0 0]) (t:=41) hb2 (zal _ _ _))));have i:=zac a.o 0;have l:=zag a.o 0;have j:=zac a.o 1;have m:=zag a.o 1;have k:=zac a.o 2;have n:=zag a.o 2));have r:=un (hv.base (Nat.zero_le _));clear hv))
   | (go_at_call 42;(with_reducible refine(yt3 P1 cP1 S22 ns22 cs22 _ (aJ.o.below (by assumption:_∧Below _ _ _).2) (by repeat(first | exact r.o | with_reducible refine VecS.alloc ?_ _ | with_reducible refine VecS.drew ?_))).mono ?_);rintro e g ⟨rfl,hb3⟩;have ae:=hb3.size;(try simp at ae);have bj:wa.heap.size≤g.heap.size:=(by omega);(try((first | (have a:=un (zbc (cs:=#[.bool false,.slice none 0 0,.slice none 0 0]) (t:=41) hb3 a.o)) | (have a:=un (zbc (cs:=#[.bool false,.slice none 0 0,.slice none 0 0]) (t:=41) hb3 (zal _ _ _))));have i:=zac a.o 0;have l:=zag a.o 0;have j:=zac a.o 1;have m:=zag a.o 1;have k:=zac a.o 2;have n:=zag a.o 2)))
   | (go_at_call 41;(with_reducible refine(yvi g2 A2 m2 c2 D2 md2 cd2 _ (u.o.below (by assumption:_∧Below _ _ _).2)).mono ?_);rintro e u4 ⟨rfl,hb4⟩;have af:=hb4.size;(try simp at af);have bk:wa.heap.size≤u4.heap.size:=(by omega);(try((first | (have a:=un (zbc (cs:=#[.bool false,.slice none 0 0,.slice none 0 0]) (t:=41) hb4 a.o)) | (have a:=un (zbc (cs:=#[.bool false,.slice none 0 0,.slice none 0 0]) (t:=41) hb4 (zal _ _ _))));have i:=zac a.o 0;have l:=zag a.o 0;have j:=zac a.o 1;have m:=zag a.o 1;have k:=zac a.o 2;have n:=zag a.o 2)))
   | ((fail_if_success have ab:=s.o);(go_at_call 43;(with_reducible refine(Vc.of _ 2 2 [0,2] _ rfl (by repeat(first | with_reducible exact zyt (by simp) (0) (2) | with_reducible exact zyt rfl (0) (2) | with_reducible refine zuW ?_ | with_reducible refine zAV ?_)) (by decide) (by decide) (by decide)).mono ?_);rintro e u5 ⟨S25,ns25,cs25,rfl,hv,hb5⟩;have ag:=hb5.size;(try simp at ag);have bl:wa.heap.size≤u5.heap.size:=(by omega);(try((first | (have a:=un (zbc (cs:=#[.bool false,.slice none 0 0,.slice none 0 0]) (t:=41) hb5 a.o)) | (have a:=un (zbc (cs:=#[.bool false,.slice none 0 0,.slice none 0 0]) (t:=41) hb5 (zal _ _ _))));have i:=zac a.o 0;have l:=zag a.o 0;have j:=zac a.o 1;have m:=zag a.o 1;have k:=zac a.o 2;have n:=zag a.o 2));have s:=un (hv.base (Nat.zero_le _));clear hv))
   | (go_at_call 42;(with_reducible refine(yt3 P2 cP2 S25 ns25 cs25 _ (v.o.below (by assumption:_∧Below _ _ _).2) (by repeat(first | exact s.o | with_reducible refine VecS.alloc ?_ _ | with_reducible refine VecS.drew ?_))).mono ?_);rintro e u6 ⟨rfl,hb6⟩;have ah:=hb6.size;(try simp at ah);have bm:wa.heap.size≤u6.heap.size:=(by omega);(try((first | (have a:=un (zbc (cs:=#[.bool false,.slice none 0 0,.slice none 0 0]) (t:=41) hb6 a.o)) | (have a:=un (zbc (cs:=#[.bool false,.slice none 0 0,.slice none 0 0]) (t:=41) hb6 (zal _ _ _))));have i:=zac a.o 0;have l:=zag a.o 0;have j:=zac a.o 1;have m:=zag a.o 1;have k:=zac a.o 2;have n:=zag a.o 2)))
   | (go_at_call 17;(with_reducible refine(yuy g2 A2 m2 c2 D2 md2 cd2 P2 cP2 g3 A3 m3 c3 D3 md3 cd3 P3 cP3 _ (u.o.below (by assumption:_∧Below _ _ _).2) (v.o.below (by assumption:_∧Below _ _ _).2) (aM.o.below (by assumption:_∧Below _ _ _).2) (aK.o.below (by assumption:_∧Below _ _ _).2)).mono ?_);rintro e u7 ⟨rfl,hb7⟩;have ai:=hb7.size;(try simp at ai);have bn:wa.heap.size≤u7.heap.size:=(by omega);(try((first | (have a:=un (zbc (cs:=#[.bool false,.slice none 0 0,.slice none 0 0]) (t:=41) hb7 a.o)) | (have a:=un (zbc (cs:=#[.bool false,.slice none 0 0,.slice none 0 0]) (t:=41) hb7 (zal _ _ _))));have i:=zac a.o 0;have l:=zag a.o 0;have j:=zac a.o 1;have m:=zag a.o 1;have k:=zac a.o 2;have n:=zag a.o 2)))
   | fail)
 all_goals
  go_wp2;go_ret
  exact⟨rfl,z.o.trans (((by assumption:_∧Below wa wa _).2).mono z.o.size)⟩
