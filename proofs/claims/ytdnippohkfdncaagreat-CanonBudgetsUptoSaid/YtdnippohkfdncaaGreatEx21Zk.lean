/- Contracts and lemmas: Ex21 El21. Conditions: as each says. -/
import Derived.Test.YtdnippohkfdncaaGreatCaSZk
import Derived.Test.YtdnippohkfdncaaGreatCaFZk
set_option linter.all false
set_option maxHeartbeats 4000000
set_option maxRecDepth 100000
namespace Go.Proofs.YtdnippohkfdncaaGreat
open Go.RowKit Am
open Lib (hid)
open Ca (solve yuw ytd)
open Lw (z6u)
def ys9 (x:Int):List Rat:=rats [1,x]
def ys4:List PRow:=[⟨rats [1,2],2,((4:Int):Rat)⟩,⟨rats [3,1],1,((9:Int):Rat)⟩]
def yte (o:COut) (f:List Nat→Bool):Bool:=match o with | .best _ G _=>f G | _=>false
theorem ytA{o:COut}{f:List Nat→Bool}(h:yte o f=true):∃c G n,o=.best c G n∧f G=true:=by
 unfold yte at h;split at h
 ·exact⟨_,_,_,rfl,h⟩
 ·cases h
theorem x_1:yte (ys3 4 2 2 (zc3 ys4) (zg8 ys4) (zjD (ys9 1) ys4) 100) (fun G=>decide (ytf 2 6 (zt0 (zc3 ys4) (zg8 ys4)) (zwh (zg8 ys4)) G=rats [0,2]))=true:=by decide +kernel
theorem x_2:yte (ys3 4 2 2 (zc3 ys4) (zg8 ys4) (zjD (ys9 2) ys4) 100) (fun G=>decide (ytf 2 6 (zt0 (zc3 ys4) (zg8 ys4)) (zwh (zg8 ys4)) G=rats [0,2]))=true:=by decide +kernel
theorem x_f:yte (yts 4 2 (zc3 ys4) (zg8 ys4) (zjD (ys9 2) ys4) 100 [2,3]) (fun G=>decide (ytf 2 4 (zc3 ys4) (zg8 ys4) G=rats [0,2]))=true:=by decide +kernel
theorem yun:(zdi (zaC 4 (zc3 ys4) [2,3] (zjD (ys9 2) ys4)) (List.replicate 4 true)).isNone=true:=by decide +kernel
theorem yvr:dot (ys9 1) (rats [0,2])=Rat.divInt 2 1:=by decide +kernel
theorem yvo:dot (ys9 2) (rats [0,2])=Rat.divInt 4 1:=by decide +kernel
theorem yvq(x:Int)(h:mw ((x:Int):Rat)≤1):S1 (ys9 x):=fun q a=>by
 rcases List.mem_cons.1 a with rfl | a
 ·decide +kernel
 ·rcases List.mem_cons.1 a with rfl | a
  ·exact h
  ·cases a
theorem ytL(x:Int)(h:mw ((x:Int):Rat)≤1):Good1 2 2 (ys9 x) ys4:=⟨by decide,by decide,yvq x h,by unfold S1;decide +kernel,by unfold Kinds;decide +kernel⟩
theorem yum:2+cnt ys4 2=4:=by decide
theorem yul:Basis 2 4 (zc3 ys4) [2,3]:=zqz (n:=2) (rows:=ys4) (by decide +kernel) (by decide +kernel)
theorem zqh{α:Type}{o:Option α}(h:o.isNone=true):o=none:=by cases o;rfl;cases h
theorem zoI{u:World}{b:Nat}(a:u.heap.size=b)(x y:Nat):IntsS (u.alloc (.cells #[.int .i64 (x:Int),.int .i64 (y:Int)] 3)) 0 (.slice (some ⟨b,0,none⟩) 2 2) [x,y]:=by
 subst a;exact⟨World.ownsRow_lit (e:=3) (size:=1) (base:=0) u #[.int .i64 (x:Int),.int .i64 (y:Int)] 2 (Nat.zero_le _) (by decide) rfl⟩
theorem yvk:∀q∈rats [0,2],mw q≤1:=by decide +kernel
theorem yt3(A:OA)(c:Nat)(B:OA)(a c':Nat)(w:World)(b:VecS w 0 (.slice A 2 c) (rats [0,2]))(d:VecS w 0 (.slice B a c') (rats [0,2])) :
  Calls Tryz.prog 36 #[.slice A 2 c,.slice B a c'] w fun e w'=>e=.returned (.bool true)∧Below w.heap.size w w':=by
 refine(Vc.same 1 (by rw[zaP];decide) A 2 c (rats [0,2]) 0 B a c' (rats [0,2]) 0 w b d yvk yvk).mono ?_;rintro e w' ⟨rfl,hb⟩;exact⟨by rw[decide_eq_true rfl],hb⟩
theorem yvl(p:Int)(d:I64 p)(hm:mw (Rat.divInt p 1)≤1000000)(g:Bool)(A:OA)(m c:Nat)(D:OA)(b a:Nat)(w:World)(h:RatS w g (.slice A m c) (.slice D b a) (Rat.divInt p 1)) :
  Calls Tryz.prog 35 #[.agg #[.bool g,.slice A m c,.slice D b a],.int .i64 p,.int .i64 1] w fun e w'=>e=.returned (.bool true)∧Below w.heap.size w w' :=
 z6u g A m c D b a (Rat.divInt p 1) p 1 w h (by decide) d (by constructor<;>decide) rfl hm
theorem yvh(g:Bool)(A:OA)(m c:Nat)(D:OA)(b a:Nat)(w:World)(h:RatS w g (.slice A m c) (.slice D b a) (Rat.divInt 2 1)) :
  Calls Tryz.prog 35 #[.agg #[.bool g,.slice A m c,.slice D b a],.int .i64 2,.int .i64 1] w fun e w'=>e=.returned (.bool true)∧Below w.heap.size w w':=yvl 2 (by constructor<;>decide) (by decide +kernel) g A m c D b a w h
theorem yvi(g:Bool)(A:OA)(m c:Nat)(D:OA)(b a:Nat)(w:World)(h:RatS w g (.slice A m c) (.slice D b a) (Rat.divInt 4 1)) :
  Calls Tryz.prog 35 #[.agg #[.bool g,.slice A m c,.slice D b a],.int .i64 4,.int .i64 1] w fun e w'=>e=.returned (.bool true)∧Below w.heap.size w w':=yvl 4 (by constructor<;>decide) (by decide +kernel) g A m c D b a w h
def yuz (w:World) (v:Rat) (e:Ending) (w':World):Prop:=∃(g:Bool) (A:OA) (m c:Nat) (D:OA) (md cd:Nat) (P:OA) (cP n:Nat) (Ba:OA) (na ca:Nat),
  e=.returned (.tuple #[.agg #[.int .i64 1,.bool g,.slice A m c,.slice D md cd,.slice P 2 cP],.int .i64 (n:Int),.slice Ba na ca,.nilIface])∧RatS w' g (.slice A m c) (.slice D md cd) v∧VecS w' 0 (.slice P 2 cP) (rats [0,2])∧Below w.heap.size w w'
theorem ytb.x{w:World}{d:Nat}{A:List (List Rat)}{b cost:List Rat}{B:Nat}{k:List Nat→List Nat}{o:COut}{v:Rat}(s:dot cost (rats [0,2])=v)(a:yte o (fun G=>decide (ytf 2 d A b G=rats [0,2]))=true)(e:Ending)(w':World)(h:ytb w 2 d A b cost B k o e w'):yuz w v e w':=by
 obtain⟨c,G,n,rfl,a⟩:=ytA a;obtain⟨q,g,Av,u,cv,j,t,p,P,l,i,y,m,r,hr,f,_⟩:=h;rw[of_decide_eq_true a]at hr f;rw[s]at hr;exact⟨g,Av,u,cv,j,t,p,P,l,n,i,y,m,r,hr,f.base (Nat.zero_le _),q⟩
namespace Lw
section
variable (C:OA) (cC:Nat) (R:OA) (cR:Nat) (w:World)
theorem yuj(hc:VecS w 0 (.slice C 2 cC) (ys9 1))(hr:RowsS w 0 (.slice R 2 cR) ys4):Calls Tryz.prog 10 #[.agg #[.slice C 2 cC,.slice R 2 cR],.int .i64 100] w (yuz w (Rat.divInt 2 1)) :=
 (solve C 2 cC R 2 cR (ys9 1) ys4 4 6 100 w hc hr (ytL 1 (by decide)) yum rfl (by decide)).mono (ytb.x yvr x_1)
theorem yuk(hc:VecS w 0 (.slice C 2 cC) (ys9 2))(hr:RowsS w 0 (.slice R 2 cR) ys4):Calls Tryz.prog 10 #[.agg #[.slice C 2 cC,.slice R 2 cR],.int .i64 100] w (yuz w (Rat.divInt 4 1)) :=
 (solve C 2 cC R 2 cR (ys9 2) ys4 4 6 100 w hc hr (ytL 2 (by decide)) yum rfl (by decide)).mono (ytb.x yvo x_2)
theorem yux(tA:OA)(hc:VecS w 0 (.slice C 2 cC) (ys9 2))(hr:RowsS w 0 (.slice R 2 cR) ys4)(a:IntsS w 0 (.slice tA 2 2) [2,3]):Calls Tryz.prog 24 #[.agg #[.slice C 2 cC,.slice R 2 cR],.slice tA 2 2,.int .i64 100] w (yuz w (Rat.divInt 4 1)) :=
 (yuw C 2 cC R 2 cR (ys9 2) ys4 4 100 tA 2 0 [2,3] w hc hr (ytL 2 (by decide)) yum (by decide) a yul (zqh yun)).mono (ytb.x yvo x_f)
end
end Lw
end Go.Proofs.YtdnippohkfdncaaGreat
namespace Go.Proofs.YtdnippohkfdncaaGreat
open Go.RowKit Am
open Lib (hid)
attribute [local go_sem ↓] Go.wp_at_zero Go.wp_at_succ
theorem RowsS.setX{w:World}{H:Nat}{v:Value}{ps:List PRow}(h:RowsS w H v ps){a:Addr}{t:TypeId}{cs:Array Value}(hg:w.heap[a.block]? = some (.cells cs t (0,0)))(h1:196≠t)(e:35≠t)(f:74≠t)(u:Value):RowsS (w.setCell a u) H v ps:=by
 obtain⟨l,b,c,d⟩:=h.row;exact(RowsL.setT (l:=l) ⟨b,c,d⟩ hg h1 e f u).toS
namespace Lw
theorem ytF(w:World):Calls Tryz.prog 34 #[.int .i64 1] w fun e w'=>∃(C:OA) (cC:Nat) (R:OA) (cR:Nat),e=.returned (.agg #[.slice C 2 cC,.slice R 2 cR])∧VecS w' 0 (.slice C 2 cC) (ys9 (1))∧RowsS w' 0 (.slice R 2 cR) ys4∧Below w.heap.size w w':=by
 obtain⟨W,f⟩:∃W,(w.alloc (.cells #[.slice none 0 0,.slice none 0 0] 47))=W:=⟨_,rfl⟩
 have l:=hid (show W.heap[w.heap.size]? = some (.cells #[.slice none 0 0,.slice none 0 0] 47 (0,0))by rw[←f];exact zam (by simp));have k:=hid (show Below w.heap.size w W by rw[←f];exact zae w _);have J:=hid (show w.heap.size+1≤W.heap.size by rw[←f];simp);obtain⟨an,aw,aT,aN,ao,ai,aU,aP⟩:=bf2 l.out;go_enter Tryz.func34,Tryz.ntmps34;go_wp2_with fail
 clear f;have ag:=J.out;have m:=zae W (.cells #[.int .i64 1,.int .i64 1] 3);have o:=hid (zad m l.out);have g:=hid (k.out.trans ((m).mono k.out.size));obtain⟨al,au,az,aE,am,av,aA,aF⟩:=bf2 o.out;with_reducible refine(Vc.of W.heap.size 2 2 [1,1] _ rfl (zqg W (1) (1)) (by decide) (by decide) (by decide)).mono ?_
 rintro e w1 ⟨S1,ns1,cs1,rfl,hv,hb⟩;have n:=hid (show(w1.alloc (.cells #[.int .i64 1,.int .i64 2] 3)).heap[w.heap.size]? = some (.cells #[.slice none 0 0,.slice none 0 0] 47 (0,0))from zak (zad hb o.out));have G:=hid (show VecS (w1.alloc (.cells #[.int .i64 1,.int .i64 2] 3)) 0 (.slice S1 ns1 cs1) (rats [1,1])from((hv.base (Nat.zero_le _))).alloc _)
 have q:=hid (show Below w.heap.size w (w1.alloc (.cells #[.int .i64 1,.int .i64 2] 3))from((g.out.trans ((hb).mono g.out.size))).alloc ((g.out.trans ((hb).mono g.out.size))).size _);have N:=hid (show(w1.alloc (.cells #[.int .i64 1,.int .i64 2] 3)).heap[w1.heap.size]? = some (.cells #[.int .i64 1,.int .i64 2] 3 (0,0))from zam (by simp));obtain⟨ap,aj,aO,aB,aq,ak,aQ,aC⟩:=bf2 n.out;obtain⟨aD,ar,aG,ah⟩:=bc2 N.out;clear hv hb;go_wp2_with fail
 with_reducible refine(Vc.of w1.heap.size 2 2 [1,2] _ rfl (zqg w1 (1) (2)) (by decide) (by decide) (by decide)).mono ?_
 rintro e L ⟨S2,ns2,cs2,rfl,hv,hb⟩;have s:=hid (zad hb n.out);have ac:=hid (G.out.below hb);have H:=hid (show VecS L 0 (.slice S2 ns2 cs2) (rats [1,2])from(hv.base (Nat.zero_le _)));have i:=hid (q.out.trans ((hb).mono q.out.size));obtain⟨a3,ax,bb,aZ,a4,ay,bc,a0⟩:=bf2 s.out;clear hv hb;go_wp2_with fail
 with_reducible refine(Rt.int 4 (by decide) (by decide) _).mono ?_
 rintro e b ⟨g3,A3,m3,c3,D3,md3,cd3,rfl,hn,hb⟩;have t:=hid (show(b.alloc (.cells #[.int .i64 3,.int .i64 1] 3)).heap[w.heap.size]? = some (.cells #[.slice none 0 0,.slice none 0 0] 47 (0,0))from zak (zad hb s.out));have ad:=hid (show VecS (b.alloc (.cells #[.int .i64 3,.int .i64 1] 3)) 0 (.slice S1 ns1 cs1) (rats [1,1])from(ac.out.below hb).alloc _);have V:=hid (show VecS (b.alloc (.cells #[.int .i64 3,.int .i64 1] 3)) 0 (.slice S2 ns2 cs2) (rats [1,2])from(H.out.below hb).alloc _)
 have D:=hid (show RatS (b.alloc (.cells #[.int .i64 3,.int .i64 1] 3)) g3 (.slice A3 m3 c3) (.slice D3 md3 cd3) ((4:Int):Rat)from(hn).alloc _);have y:=hid (show Below w.heap.size w (b.alloc (.cells #[.int .i64 3,.int .i64 1] 3))from((i.out.trans ((hb).mono i.out.size))).alloc ((i.out.trans ((hb).mono i.out.size))).size _);have O:=hid (show(b.alloc (.cells #[.int .i64 3,.int .i64 1] 3)).heap[b.heap.size]? = some (.cells #[.int .i64 3,.int .i64 1] 3 (0,0))from zam (by simp))
 obtain⟨aR,aH,a8,a1,aS,aI,a9,a2⟩:=bf2 t.out;obtain⟨aX,aL,aY,aM⟩:=bc2 O.out;clear hn hb;go_wp2_with fail
 with_reducible refine(Vc.of b.heap.size 2 2 [3,1] _ rfl (zqg b (3) (1)) (by decide) (by decide) (by decide)).mono ?_
 rintro e M ⟨S4,ns4,cs4,rfl,hv,hb⟩;have u:=hid (zad hb t.out);have ae:=hid (ad.out.below hb);have X:=hid (V.out.below hb);have aa:=hid (D.out.below hb);have I:=hid (show VecS M 0 (.slice S4 ns4 cs4) (rats [3,1])from(hv.base (Nat.zero_le _)));have z:=hid (y.out.trans ((hb).mono y.out.size));obtain⟨aV,aJ,bd,a6,aW,aK,be,a7⟩:=bf2 u.out;clear hv hb;go_wp2_with fail
 with_reducible refine(Rt.int 9 (by decide) (by decide) _).mono ?_
 rintro e c ⟨g5,A5,m5,c5,D5,md5,cd5,rfl,hn,hb⟩;have x:=hid (zad hb u.out);have B:=hid (ae.out.below hb);have Y:=hid (X.out.below hb);have ab:=hid (aa.out.below hb);have Z:=hid (I.out.below hb);have E:=hid (show RatS c g5 (.slice A5 m5 c5) (.slice D5 md5 cd5) ((9:Int):Rat)from hn);have A:=hid (z.out.trans ((hb).mono z.out.size));obtain⟨bh,ba,bj,bf,bi,a5,bk,bg⟩:=bf2 x.out;clear hn hb;obtain rfl:2=ns1:=B.out.len.symm
 have j:=zae c (.cells #[.slice S2 ns2 cs2,.int .i64 2,.bool g3,.slice A3 m3 c3,.slice D3 md3 cd3,.slice S4 ns4 cs4,.int .i64 1,.bool g5,.slice A5 m5 c5,.slice D5 md5 cd5] 74);have d:=hid (zad j x.out);have af:=hid (B.out.below j)
 have F:=hid (show RowsS (c.alloc (.cells #[.slice S2 ns2 cs2,.int .i64 2,.bool g3,.slice A3 m3 c3,.slice D3 md3 cd3,.slice S4 ns4 cs4,.int .i64 1,.bool g5,.slice A5 m5 c5,.slice D5 md5 cd5] 74)) 0 (.slice (some ⟨c.heap.size,0,none⟩) 2 2) ys4 from(zoX rfl (r:=⟨.slice S2 ns2 cs2,2,g3,.slice A3 m3 c3,.slice D3 md3 cd3⟩) (r':=⟨.slice S4 ns4 cs4,1,g5,.slice A5 m5 c5,.slice D5 md5 cd5⟩) (p:=⟨rats [1,2],2,((4:Int):Rat)⟩) (p':=⟨rats [3,1],1,((9:Int):Rat)⟩) ⟨Y.out,rfl,ab.out⟩ ⟨Z.out,rfl,E.out⟩))
 have U:=hid (A.out.trans ((j).mono A.out.size));obtain⟨S,P,bn,bl,T,Q,bo,bm⟩:=bf2 d.out;go_wp2;refine bodyPost_ret (v:=.agg #[.slice S1 2 cs1,.slice (some ⟨c.heap.size,0,none⟩) 2 2]) (by simp[results,Tryz.results34,go_sem,S,P,T,Q]) rfl ?_;have h1:=(af.out.setT (p:=⟨w.heap.size,0,none⟩) d.out (by decide) (by decide) (.slice S1 2 cs1)).setT (p:=⟨w.heap.size,1,none⟩) (zar _ d.out) (by decide) (by decide) (.slice (some ⟨c.heap.size,0,none⟩) 2 2)
 have K:=(F.out.setX (a:=⟨w.heap.size,0,none⟩) d.out (by decide) (by decide) (by decide) (.slice S1 2 cs1)).setX (a:=⟨w.heap.size,1,none⟩) (zar _ d.out) (by decide) (by decide) (by decide) (.slice (some ⟨c.heap.size,0,none⟩) 2 2);exact⟨S1,cs1,some ⟨c.heap.size,0,none⟩,2,rfl,h1,K,bsc (bsc U.out)⟩
theorem ytp(w:World):Calls Tryz.prog 34 #[.int .i64 2] w fun e w'=>∃(C:OA) (cC:Nat) (R:OA) (cR:Nat),e=.returned (.agg #[.slice C 2 cC,.slice R 2 cR])∧VecS w' 0 (.slice C 2 cC) (ys9 (2))∧RowsS w' 0 (.slice R 2 cR) ys4∧Below w.heap.size w w':=by
 obtain⟨W,f⟩:∃W,(w.alloc (.cells #[.slice none 0 0,.slice none 0 0] 47))=W:=⟨_,rfl⟩
 have l:=hid (show W.heap[w.heap.size]? = some (.cells #[.slice none 0 0,.slice none 0 0] 47 (0,0))by rw[←f];exact zam (by simp));have k:=hid (show Below w.heap.size w W by rw[←f];exact zae w _);have J:=hid (show w.heap.size+1≤W.heap.size by rw[←f];simp);obtain⟨an,aw,aT,aN,ao,ai,aU,aP⟩:=bf2 l.out;go_enter Tryz.func34,Tryz.ntmps34;go_wp2_with fail
 clear f;have ag:=J.out;have m:=zae W (.cells #[.int .i64 1,.int .i64 2] 3);have o:=hid (zad m l.out);have g:=hid (k.out.trans ((m).mono k.out.size));obtain⟨al,au,az,aE,am,av,aA,aF⟩:=bf2 o.out;with_reducible refine(Vc.of W.heap.size 2 2 [1,2] _ rfl (zqg W (1) (2)) (by decide) (by decide) (by decide)).mono ?_
 rintro e w1 ⟨S1,ns1,cs1,rfl,hv,hb⟩;have n:=hid (show(w1.alloc (.cells #[.int .i64 1,.int .i64 2] 3)).heap[w.heap.size]? = some (.cells #[.slice none 0 0,.slice none 0 0] 47 (0,0))from zak (zad hb o.out));have G:=hid (show VecS (w1.alloc (.cells #[.int .i64 1,.int .i64 2] 3)) 0 (.slice S1 ns1 cs1) (rats [1,2])from((hv.base (Nat.zero_le _))).alloc _)
 have q:=hid (show Below w.heap.size w (w1.alloc (.cells #[.int .i64 1,.int .i64 2] 3))from((g.out.trans ((hb).mono g.out.size))).alloc ((g.out.trans ((hb).mono g.out.size))).size _);have N:=hid (show(w1.alloc (.cells #[.int .i64 1,.int .i64 2] 3)).heap[w1.heap.size]? = some (.cells #[.int .i64 1,.int .i64 2] 3 (0,0))from zam (by simp));obtain⟨ap,aj,aO,aB,aq,ak,aQ,aC⟩:=bf2 n.out;obtain⟨aD,ar,aG,ah⟩:=bc2 N.out;clear hv hb;go_wp2_with fail
 with_reducible refine(Vc.of w1.heap.size 2 2 [1,2] _ rfl (zqg w1 (1) (2)) (by decide) (by decide) (by decide)).mono ?_
 rintro e L ⟨S2,ns2,cs2,rfl,hv,hb⟩;have s:=hid (zad hb n.out);have ac:=hid (G.out.below hb);have H:=hid (show VecS L 0 (.slice S2 ns2 cs2) (rats [1,2])from(hv.base (Nat.zero_le _)));have i:=hid (q.out.trans ((hb).mono q.out.size));obtain⟨a3,ax,bb,aZ,a4,ay,bc,a0⟩:=bf2 s.out;clear hv hb;go_wp2_with fail
 with_reducible refine(Rt.int 4 (by decide) (by decide) _).mono ?_
 rintro e b ⟨g3,A3,m3,c3,D3,md3,cd3,rfl,hn,hb⟩;have t:=hid (show(b.alloc (.cells #[.int .i64 3,.int .i64 1] 3)).heap[w.heap.size]? = some (.cells #[.slice none 0 0,.slice none 0 0] 47 (0,0))from zak (zad hb s.out));have ad:=hid (show VecS (b.alloc (.cells #[.int .i64 3,.int .i64 1] 3)) 0 (.slice S1 ns1 cs1) (rats [1,2])from(ac.out.below hb).alloc _);have V:=hid (show VecS (b.alloc (.cells #[.int .i64 3,.int .i64 1] 3)) 0 (.slice S2 ns2 cs2) (rats [1,2])from(H.out.below hb).alloc _)
 have D:=hid (show RatS (b.alloc (.cells #[.int .i64 3,.int .i64 1] 3)) g3 (.slice A3 m3 c3) (.slice D3 md3 cd3) ((4:Int):Rat)from(hn).alloc _);have y:=hid (show Below w.heap.size w (b.alloc (.cells #[.int .i64 3,.int .i64 1] 3))from((i.out.trans ((hb).mono i.out.size))).alloc ((i.out.trans ((hb).mono i.out.size))).size _);have O:=hid (show(b.alloc (.cells #[.int .i64 3,.int .i64 1] 3)).heap[b.heap.size]? = some (.cells #[.int .i64 3,.int .i64 1] 3 (0,0))from zam (by simp))
 obtain⟨aR,aH,a8,a1,aS,aI,a9,a2⟩:=bf2 t.out;obtain⟨aX,aL,aY,aM⟩:=bc2 O.out;clear hn hb;go_wp2_with fail
 with_reducible refine(Vc.of b.heap.size 2 2 [3,1] _ rfl (zqg b (3) (1)) (by decide) (by decide) (by decide)).mono ?_
 rintro e M ⟨S4,ns4,cs4,rfl,hv,hb⟩;have u:=hid (zad hb t.out);have ae:=hid (ad.out.below hb);have X:=hid (V.out.below hb);have aa:=hid (D.out.below hb);have I:=hid (show VecS M 0 (.slice S4 ns4 cs4) (rats [3,1])from(hv.base (Nat.zero_le _)));have z:=hid (y.out.trans ((hb).mono y.out.size));obtain⟨aV,aJ,bd,a6,aW,aK,be,a7⟩:=bf2 u.out;clear hv hb;go_wp2_with fail
 with_reducible refine(Rt.int 9 (by decide) (by decide) _).mono ?_
 rintro e c ⟨g5,A5,m5,c5,D5,md5,cd5,rfl,hn,hb⟩;have x:=hid (zad hb u.out);have B:=hid (ae.out.below hb);have Y:=hid (X.out.below hb);have ab:=hid (aa.out.below hb);have Z:=hid (I.out.below hb);have E:=hid (show RatS c g5 (.slice A5 m5 c5) (.slice D5 md5 cd5) ((9:Int):Rat)from hn);have A:=hid (z.out.trans ((hb).mono z.out.size));obtain⟨bh,ba,bj,bf,bi,a5,bk,bg⟩:=bf2 x.out;clear hn hb;obtain rfl:2=ns1:=B.out.len.symm
 have j:=zae c (.cells #[.slice S2 ns2 cs2,.int .i64 2,.bool g3,.slice A3 m3 c3,.slice D3 md3 cd3,.slice S4 ns4 cs4,.int .i64 1,.bool g5,.slice A5 m5 c5,.slice D5 md5 cd5] 74);have d:=hid (zad j x.out);have af:=hid (B.out.below j)
 have F:=hid (show RowsS (c.alloc (.cells #[.slice S2 ns2 cs2,.int .i64 2,.bool g3,.slice A3 m3 c3,.slice D3 md3 cd3,.slice S4 ns4 cs4,.int .i64 1,.bool g5,.slice A5 m5 c5,.slice D5 md5 cd5] 74)) 0 (.slice (some ⟨c.heap.size,0,none⟩) 2 2) ys4 from(zoX rfl (r:=⟨.slice S2 ns2 cs2,2,g3,.slice A3 m3 c3,.slice D3 md3 cd3⟩) (r':=⟨.slice S4 ns4 cs4,1,g5,.slice A5 m5 c5,.slice D5 md5 cd5⟩) (p:=⟨rats [1,2],2,((4:Int):Rat)⟩) (p':=⟨rats [3,1],1,((9:Int):Rat)⟩) ⟨Y.out,rfl,ab.out⟩ ⟨Z.out,rfl,E.out⟩))
 have U:=hid (A.out.trans ((j).mono A.out.size));obtain⟨S,P,bn,bl,T,Q,bo,bm⟩:=bf2 d.out;go_wp2;refine bodyPost_ret (v:=.agg #[.slice S1 2 cs1,.slice (some ⟨c.heap.size,0,none⟩) 2 2]) (by simp[results,Tryz.results34,go_sem,S,P,T,Q]) rfl ?_;have h1:=(af.out.setT (p:=⟨w.heap.size,0,none⟩) d.out (by decide) (by decide) (.slice S1 2 cs1)).setT (p:=⟨w.heap.size,1,none⟩) (zar _ d.out) (by decide) (by decide) (.slice (some ⟨c.heap.size,0,none⟩) 2 2)
 have K:=(F.out.setX (a:=⟨w.heap.size,0,none⟩) d.out (by decide) (by decide) (by decide) (.slice S1 2 cs1)).setX (a:=⟨w.heap.size,1,none⟩) (zar _ d.out) (by decide) (by decide) (by decide) (.slice (some ⟨c.heap.size,0,none⟩) 2 2);exact⟨S1,cs1,some ⟨c.heap.size,0,none⟩,2,rfl,h1,K,bsc (bsc U.out)⟩
