/- Contracts and lemmas: DuN Aw19 Slv19 Shw Dp Dp19. Conditions: as each says. -/
import Derived.Test.YtbhfhkcdfmmmiaaGreatDoorDuSZd
import Derived.Test.YtbhfhkcdfmmmiaaGreatDoorOpenZd
import Derived.Test.YtbhfhkcdfmmmiaaGreatDoorShpZd
set_option linter.all false
set_option maxHeartbeats 2000000
set_option maxRecDepth 100000
namespace Go.Proofs.YtbhfhkcdfmmmiaaGreatDoor
open Go.RowKit Am
open Lib (hid)
attribute [local go_sem ↓] Go.wp_at_zero Go.wp_at_succ
variable {A:List (List Rat)}{cols:List Nat}{rows:List PRow}{cost xs:List Rat}{N S f k m nC nR:Nat}
namespace Du
theorem solve_no(S:Nat)(hS:1≤S)(C:OA)(nc cc:Nat)(R:OA)(nr b:Nat)(cost:List Rat)(rows:List PRow)(N:Nat)(hN:nc+cnt rows nr=N)(tA:OA)(tc Hc:Nat)(cols:List Nat)(budget:Int)(w:World)(hc:VecS w 0 (C,nc,cc) cost)(hr:RowsS w 0 (R,nr,b) rows)(hb:nc≤24)(t:nr≤20)(u:Rows nc rows)(s:Kinds rows)(zc:∀q∈cost,mw q≤S)(zr:∀p∈rows,(∀q∈p.coef,mw q≤S)∧mw p.rhs≤S)
  (hi:IntsS w Hc (tA,nr,tc) cols) (m:Basis nr N (zc3 rows) cols) (o:zor nr S≤LIM) (ac:budget≤9223372036854775807) (n:zdi (zaC N (zc3 rows) cols (zjD cost rows)) (List.replicate N true)≠none) :
  Calls Tryz.prog 7 #[.agg #[(C,nc,cc),(R,nr,b)],(tA,nr,tc),.int .i64 budget] w fun e w'=>e=.returned (.tuple #[.agg #[.int .i64 0,(),(),(),.int .i64 0],.iface 64 (.int .i64 190)])∧Below w.heap.size w w':=by
 have O:=hid u;have E:=hid s;have P:=hid hS;have X:=hid zc;have Y:=hid zr;have I:=hid hN;have M:=hid n;have A:=hid m;have l:=hid o;have H:=hid hb;have J:=hid t;have G:=hid (show N≤64 by have:=zgO rows nr;omega);clear u s hS zc zr hN ac n m o hb t;obtain⟨W,a⟩:∃W,((w.alloc (.cells #[(C,nc,cc),(R,nr,b)] 31)).alloc (.cells #[.int .i64 0,(),(),(),.int .i64 0] 37))=W:=⟨_,rfl⟩
 have Z:=hid (show W.heap[w.heap.size]? = some (.cells #[(C,nc,cc),(R,nr,b)] 31 (0,0))by rw[←a];exact zak (zam (by simp)));have aa:=hid (show W.heap[w.heap.size+1]? = some (.cells #[.int .i64 0,(),(),(),.int .i64 0] 37 (0,0))by rw[←a];exact zam (by simp));have k:=hid (show Below w.heap.size w W by rw[←a];exact(zae w _).alloc (by simp) _);have B:=hid (show VecS W 0 (C,nc,cc) cost by rw[←a];exact((hc).alloc _).alloc _)
 have L:=hid (show RowsS W 0 (R,nr,b) rows by rw[←a];exact((hr).alloc _).alloc _);have D:=hid (show IntsS W Hc (tA,nr,tc) cols by rw[←a];exact((hi).alloc _).alloc _);obtain⟨ah,_,ai,_⟩:=bc2 Z.out;clear hc hr hi;go_enter Tryz.func7,Tryz.ntmps7;go_wp2_with fail
 clear a;with_reducible refine(Pb.standardN S P.out C nc cc R nr b cost rows N I.out _ B.out L.out H.out J.out O.out E.out X.out Y.out).mono ?_
 rintro e w1 ⟨rA,rc,lA,bA,bc_,kA,kc,eA,ec,rfl,hst,hb⟩;have ag:=hid (zad hb aa.out);have af:=hid (D.out.below hb);have Q:=hid (show StdP w1 rA rc lA bA bc_ kA kc eA ec nr N S (zc3 rows) (zg8 rows) (zjD cost rows) (zca nc rows nr)from hst);have y:=hid (k.out.trans ((hb).mono k.out.size));clear hst hb;have f:=zae w1 (.cells #[(rA,nr,rc),(N:Int),(bA,nr,bc_),(kA,N,kc),(nc:Int),(eA,nr,ec)] 80);have aj:=hid (zad f ag.out);have aE:=hid (af.out.below f)
 have aB:=hid (Q.out.below f);have z:=hid (y.out.trans ((f).mono y.out.size));have ab:=hid (zal w1 #[(rA,nr,rc),(N:Int),(bA,nr,bc_),(kA,N,kc),(nc:Int),(eA,nr,ec)] 80);obtain⟨al,_,am,_,ar,_,j,_,aC,_,aD,_⟩:=bc6 ab.out;go_wp2_with fail
 refine(Tb.new rA rc lA bA bc_ kA kc eA ec nr N S nc (zc3 rows) (zg8 rows) (zjD cost rows) (zca nc rows nr) tA tc cols Hc _ aB.out aE.out A.out l.out).mono ?_;rintro e x ⟨q,tA',tc',rfl,hT,hb⟩;have U:=hid hT;have i:=hid hb;have s3:=zab hb j;clear hT hb;go_wp2_with fail
 refine zaS (S:=fun w'=>w'.cell? ⟨w1.heap.size,3,none⟩=some (kA,N,kc)) [] (h:=fun hHeld=>?_);refine zaw [0,1,2,3,4,5,7] ?_;repeat refine tkL (hS:=hHeld) (h:=?_)
 refine zao ?_;refine zaB 6 (h:=fun K c=>?_);go_simp
 (go_at_call 23;(with_reducible refine(Du.all N G.out _).mono ?_);rintro e v1 ⟨MA,rfl,hm,hb⟩;have F:=hid hm;have d:=hid (show Below x.heap.size x v1 from It.bdrew0' hb);have V:=hid (U.out.below d.out);have aF:=zab d.out s3;clear hm hb)
 (try go_wp2_with fail)
 refine c.out _ _ kp fun hHeld=>?_
 clear c K;try simp only[Act.put,pu1,pu2,pu3,pu4,pu5,pu6]
 refine zaB 8 (h:=fun K c=>?_);go_simp
 (go_at_call 27;(with_reducible refine(Du.run_no V.out MA N _ (List.replicate N true) F.out l.out budget M.out).mono ?_);rintro e v2 ⟨rfl,hb2⟩;have g:=hid (show Below (w1.alloc (.cells #[(rA,nr,rc),(N:Int),(bA,nr,bc_),(kA,N,kc),(nc:Int),(eA,nr,ec)] 80)).heap.size (w1.alloc (.cells #[(rA,nr,rc),(N:Int),(bA,nr,bc_),(kA,N,kc),(nc:Int),(eA,nr,ec)] 80)) v2 from(i.out.trans (d.out.mono i.out.size)).trans (hb2.mono (Nat.le_trans i.out.size d.out.size)));have aG:=zab g.out j;clear hb2)
 (try go_wp2_with fail)
 refine c.out _ _ kp fun hHeld=>?_
 clear c K;try simp only[Act.put,pu1,pu2,pu3,pu4,pu5,pu6]
 refine zaw [9,10,11,12,13,14,15] ?_;repeat refine tkL (hS:=hHeld) (h:=?_)
 refine zao ?_;refine zaM (h:=?_);have ap:=hid (zad g.out aj.out);have ak:=hid (z.out.trans ((g.out).mono z.out.size));obtain⟨aw,an,aJ,_,ax,ao,aH,_,ay,aq,aI,_,az,av,aK,_,aA,au,aL,_⟩:=bf5 ap.out;clear ah ai al am ar j aC aD;clear hHeld;go_wp2;refine bodyPost_ret (v:=.tuple #[.agg #[.int .i64 0,(),(),(),.int .i64 0],.iface 64 (.int .i64 190)]) (by simp[results,Tryz.results7,go_sem,aw,an,ax,ao,ay,aq,az,av,aA,au]) rfl ?_
 exact⟨rfl,bsc (bsc (bsc (bsc (bsc ak.out))))⟩
end Du
theorem zoI{u:World}{b:Nat}(hb:u.heap.size=b)(x y:Nat):IntsS (u.alloc (.cells #[(x:Int),(y:Int)] 3)) 0 (.slice (some ⟨b,0,none⟩) 2 2) [x,y]:=by
 subst hb;exact⟨World.ownsRow_lit (e:=3) (size:=1) (base:=0) u #[(x:Int),(y:Int)] 2 (Nat.zero_le _) (by decide) rfl⟩
theorem zDa:2+cnt zcY 2=4:=by decide
theorem zyl:Rows 2 zcY:=by unfold Rows Sm;decide +kernel
theorem zuC:Kinds zcY:=by unfold Kinds;decide +kernel
theorem zym:∀p∈zcY,(∀q∈p.coef,mw q≤1)∧mw p.rhs≤1:=by decide +kernel
theorem zAe:∀q∈zhx 1,mw q≤1:=by decide +kernel
theorem zAf:∀q∈zhx (-1),mw q≤1:=by decide +kernel
theorem zC9:zor 2 1≤LIM:=by rw[zaP];decide +kernel
theorem zuB:Basis 2 4 (zc3 zcY) [2,3]:=by
 have h:=zqz (n:=2) (rows:=zcY) (by decide +kernel) (by decide +kernel);exact h
theorem zJF:∀q∈rats [0,2],mw q≤1:=by decide +kernel
theorem zqh{α:Type}{o:Option α}(h:o.isNone=true):o=none:=by cases o;rfl;cases h
theorem zqi{α:Type}{o:Option α}(h:o.isNone=false):o≠none:=by intro e;rw[e]at h;cases h
theorem zDQ(w:World)(hg:w.cell? ⟨0,0,none⟩=some Err.HandleV):Calls Tryz.prog 18 #[.iface 64 (.int .i64 190),.int .i64 190,.string { data:=#[] },.int .i64 0] w fun a w'=>a=.returned true∧Below w.heap.size w w':=Err.told_Errno 190 w hg
theorem zGG(w:World):Calls Tryz.prog 23 #[.int .i64 3] w fun e w'=>∃A,e=.returned (.slice A 3 3)∧Below w.heap.size w w' :=
 (Du.all 3 (by decide) w).mono fun _ _ ⟨A,h1,_,h2⟩=>⟨A,h1,h2⟩
theorem zDN(A:OA)(c:Nat)(B:OA)(a c':Nat)(w:World)(b:VecS w 0 (.slice A 2 c) (rats [0,2]))(d:VecS w 0 (B,a,c') (rats [0,2])) :
  Calls Tryz.prog 21 #[.slice A 2 c,(B,a,c')] w fun e w'=>e=.returned true∧Below w.heap.size w w':=by
 refine(Vc.same 1 (by rw[zaP];decide) A 2 c (rats [0,2]) 0 B a c' (rats [0,2]) 0 w b d zJF zJF).mono ?_;rintro e w' ⟨rfl,hb⟩;exact⟨by rw[decide_eq_true rfl],hb⟩
namespace Lw
theorem zBl(C:OA)(cc:Nat)(R:OA)(d:Nat)(tA:OA)(tc:Nat)(w:World)(hc:VecS w 0 (.slice C 2 cc) (zhx 1))(hr:RowsS w 0 (.slice R 2 d) zcY)(hi:IntsS w 0 (.slice tA 2 tc) [2,3]) :
  Calls Tryz.prog 7 #[.agg #[.slice C 2 cc,.slice R 2 d],.slice tA 2 tc,.int .i64 9] w fun e w'=>∃(P:OA) (b:Nat) (D:OA) (c:Nat),e=.returned (.tuple #[.agg #[.int .i64 1,.slice P 2 b,.slice D 2 c,(),.int .i64 1],.nilIface])∧VecS w' w.heap.size (.slice P 2 b) (rats [0,2])∧Below w.heap.size w w':=by
 refine(Du.solve 1 (Nat.le_refl _) C 2 cc R 2 d (zhx 1) zcY 4 zDa tA tc 0 [2,3] 9 w hc hr (by decide) (by decide) zyl zuC zAe zym hi zuB zC9 (by decide) (zqh zAg)).mono ?_;intro e w' h;have f:pivs (zbE 4 (zc3 zcY) (zg8 zcY) (zjD (zhx 1) zcY) (List.replicate 4 true)) (Int.toNat 9) [2,3]=zBW:=rfl;rw[f]at h;obtain⟨hb,h | h | h⟩:=h
 ·rw[zHy]at h;cases h.1
 ·obtain⟨_,k,_,_,a,_⟩:=h;rw[zJ8]at a;cases a
 ·obtain⟨_,_,P,b,D,c,h1,a,_⟩:=h;rw[e_n]at h1;rw[zJ9]at a;exact⟨P,b,D,c,h1,a,hb⟩
theorem zBk(C:OA)(cc:Nat)(R:OA)(a:Nat)(tA:OA)(tc:Nat)(w:World)(hc:VecS w 0 (.slice C 2 cc) (zhx (-1)))(hr:RowsS w 0 (.slice R 2 a) zcY)(hi:IntsS w 0 (.slice tA 2 tc) [2,3]) :
  Calls Tryz.prog 7 #[.agg #[.slice C 2 cc,.slice R 2 a],.slice tA 2 tc,.int .i64 9] w fun e w'=>e=.returned (.tuple #[.agg #[.int .i64 0,(),(),(),.int .i64 0],.iface 64 (.int .i64 190)])∧Below w.heap.size w w' :=
 Du.solve_no 1 (Nat.le_refl _) C 2 cc R 2 a (zhx (-1)) zcY 4 zDa tA tc 0 [2,3] 9 w hc hr (by decide) (by decide) zyl zuC zAf zym hi zuB zC9 (by decide) (zqi zAh)
theorem zzh(w:World)(hg:w.cell? ⟨0,0,none⟩=some Err.HandleV):Calls Tryz.prog 5 #[] w fun e w'=>e=.returned true∧Below w.heap.size w w':=by
 have U:=hid hg;clear hg;have v:=hid (Below.refl w.heap.size w);go_enter Tryz.func5,Tryz.ntmps5;go_wp2_with fail
 with_reducible refine(zuN _).mono ?_
 rintro e w1 ⟨C1,cC1,R1,cR1,rfl,hc,hr,hb⟩;have Q:=hid (show VecS w1 0 (.slice C1 2 cC1) (zhx (1))from hc);have Y:=hid (show RowsS w1 0 (.slice R1 2 cR1) zcY from hr);have y:=hid (v.out.trans ((hb).mono v.out.size));have z:=zab hb U.out;clear hc hr hb;have f:=zae w1 (.cells #[.int .i64 2,.int .i64 3] 3);have an:=hid (Q.out.below f);have ap:=hid (Y.out.below f);have A:=hid (y.out.trans ((f).mono y.out.size));have B:=zab f z
 have V:=hid (show IntsS (w1.alloc (.cells #[.int .i64 2,.int .i64 3] 3)) 0 (.slice (some ⟨w1.heap.size,0,none⟩) 2 2) [2,3]from zoI rfl 2 3);go_wp2_with fail
 with_reducible refine(zBl C1 cC1 R1 cR1 (some ⟨w1.heap.size,0,none⟩) 2 _ an.out ap.out V.out).mono ?_
 rintro e v1 ⟨P1,cP1,D1,cD1,rfl,hv,hb⟩;have X:=hid (show VecS v1 0 (.slice P1 2 cP1) (rats [0,2])from(hv.base (Nat.zero_le _)));have D:=hid (A.out.trans ((hb).mono A.out.size));have q:=zab hb B;clear hb hv;have g:=zae v1 (.cells #[.int .i64 1,.slice P1 2 cP1,.slice D1 2 cD1,(),.int .i64 1] 37);have ai:=hid (X.out.below g);have E:=hid (D.out.trans ((g).mono D.out.size));have p:=zab g q;have ab:=hid (zal v1 #[.int .i64 1,.slice P1 2 cP1,.slice D1 2 cD1,(),.int .i64 1] 37)
 have p:=zab g q;go_wp2_with fail
 with_reducible refine(zuM _).mono ?_
 rintro e c ⟨C2,cC2,R2,cR2,rfl,hc,hr,hb⟩;have ar:=hid (zad hb ab.out);have aj:=hid (ai.out.below hb);have S:=hid (show VecS c 0 (.slice C2 2 cC2) (zhx (-1))from hc);have Z:=hid (show RowsS c 0 (.slice R2 2 cR2) zcY from hr);have F:=hid (E.out.trans ((hb).mono E.out.size));have G:=zab hb p;clear hc hr hb;have b:=zae c (.cells #[.int .i64 2,.int .i64 3] 3);have au:=hid (zad b ar.out);have ak:=hid (aj.out.below b);have ao:=hid (S.out.below b);have aq:=hid (Z.out.below b)
 have H:=hid (F.out.trans ((b).mono F.out.size));have I:=zab b G;have W:=hid (show IntsS (c.alloc (.cells #[.int .i64 2,.int .i64 3] 3)) 0 (.slice (some ⟨c.heap.size,0,none⟩) 2 2) [2,3]from zoI rfl 2 3);go_wp2_with fail
 with_reducible refine(zBk C2 cC2 R2 cR2 (some ⟨c.heap.size,0,none⟩) 2 _ ao.out aq.out W.out).mono ?_
 rintro e o ⟨rfl,hb⟩;have av:=hid (zad hb au.out);have al:=hid (ak.out.below hb);have M:=hid (H.out.trans ((hb).mono H.out.size));have s:=zab hb I;clear hb;have d:=zae o (.cells #[.int .i64 0,(),(),(),.int .i64 0] 37);have J:=hid (zad d av.out);have am:=hid (al.out.below d);have x:=hid (M.out.trans ((d).mono M.out.size));obtain⟨K,_,L,_,N,_,O,_,P,_⟩:=bc5 J.out;have u:=zab d s
 have ac:=hid (zal o #[.int .i64 0,(),(),(),.int .i64 0] 37);obtain⟨ay,_,az,_,aA,_,aB,_,aC,_⟩:=bc5 ac.out;have u:=zab d s;clear z B q p G I s;go_wp2_with fail
 generalize hwa:(o.alloc (.cells #[.int .i64 0,(),(),(),.int .i64 0] 37))=wa at *
 clear hwa;have HS:=hid (show ∀w',Below wa.heap.size wa w'→((w'.cell? ⟨v1.heap.size,0,none⟩=some (.int .i64 1)∧w'.cell? ⟨v1.heap.size,1,none⟩=some (.slice P1 2 cP1)∧w'.cell? ⟨v1.heap.size,2,none⟩=some (.slice D1 2 cD1)∧w'.cell? ⟨v1.heap.size,3,none⟩=some ()∧w'.cell? ⟨v1.heap.size,4,none⟩=some (.int .i64 1)∧w'.cell? ⟨0,0,none⟩=some (Err.HandleV))∧Below wa.heap.size wa w')from fun w' h=>⟨⟨zab h K,zab h L,zab h N,zab h O,zab h P,zab h u⟩,h⟩)
 go_region_held3 (fun w'=>((w'.cell? ⟨v1.heap.size,0,none⟩=some (.int .i64 1)∧w'.cell? ⟨v1.heap.size,1,none⟩=some (.slice P1 2 cP1)∧w'.cell? ⟨v1.heap.size,2,none⟩=some (.slice D1 2 cD1)∧w'.cell? ⟨v1.heap.size,3,none⟩=some ()∧w'.cell? ⟨v1.heap.size,4,none⟩=some (.int .i64 1)∧w'.cell? ⟨0,0,none⟩=some (Err.HandleV))∧Below wa.heap.size wa w'))
  ((refine HS.out _ ?_;repeat(first | exact Below.refl _ _ | exact(by assumption:_∧Below _ _ _).2 | with_reducible refine bdrew ?_ | with_reducible refine al2 ?_ _ | with_reducible refine set2 ?_ (by omega) | with_reducible refine zc1 ?_ (by assumption))))
  (first
   | (go_at_call 22;(with_reducible refine(Vc.of _ 2 2 [0,2] _ rfl (by repeat(first | with_reducible exact zyt (by simp) 0 2 | with_reducible exact zyt rfl 0 2 | with_reducible refine zuW ?_ | with_reducible refine zAV ?_)) (by decide) (by decide) (by decide)).mono ?_);rintro e u1 ⟨S5,ns5,cs5,rfl,hv,hb1⟩;have ae:=hb1.size;(try simp at ae);(try((first | (have a:=hid (zbc (cs:=#[.bool false,.slice none 0 0,.slice none 0 0]) (t:=49) hb1 a.out)) | (have a:=hid (zbc (cs:=#[.bool false,.slice none 0 0,.slice none 0 0]) (t:=49) hb1 (zal _ _ _))));have i:=zac a.out 0;have l:=zag a.out 0;have j:=zac a.out 1;have m:=zag a.out 1;have k:=zac a.out 2;have n:=zag a.out 2));have N5:=hid (hv.base (Nat.zero_le _));clear hv)
   | (go_at_call 21;(with_reducible refine(zDN P1 cP1 S5 ns5 cs5 _ (am.out.below (by assumption:_∧Below _ _ _).2) (by repeat(first | exact N5.out | with_reducible refine VecS.alloc ?_ _ | with_reducible refine VecS.drew ?_))).mono ?_);rintro e u2 ⟨rfl,hb2⟩;have af:=hb2.size;(try simp at af);(try((first | (have a:=hid (zbc (cs:=#[.bool false,.slice none 0 0,.slice none 0 0]) (t:=49) hb2 a.out)) | (have a:=hid (zbc (cs:=#[.bool false,.slice none 0 0,.slice none 0 0]) (t:=49) hb2 (zal _ _ _))));have i:=zac a.out 0;have l:=zag a.out 0;have j:=zac a.out 1;have m:=zag a.out 1;have k:=zac a.out 2;have n:=zag a.out 2)))
   | (go_at_call 18;(with_reducible refine(zDQ _ (zab ((by assumption:_∧Below wa.heap.size wa _).2) u)).mono ?_);rintro e u3 ⟨rfl,hb3⟩;have ag:=hb3.size;(try simp at ag);(try((first | (have a:=hid (zbc (cs:=#[.bool false,.slice none 0 0,.slice none 0 0]) (t:=49) hb3 a.out)) | (have a:=hid (zbc (cs:=#[.bool false,.slice none 0 0,.slice none 0 0]) (t:=49) hb3 (zal _ _ _))));have i:=zac a.out 0;have l:=zag a.out 0;have j:=zac a.out 1;have m:=zag a.out 1;have k:=zac a.out 2;have n:=zag a.out 2)))
   | (go_at_call 23;(with_reducible refine(zGG _).mono ?_);rintro e u4 ⟨A6,rfl,hb4⟩;have ah:=hb4.size;(try simp at ah);(try((first | (have a:=hid (zbc (cs:=#[.bool false,.slice none 0 0,.slice none 0 0]) (t:=49) hb4 a.out)) | (have a:=hid (zbc (cs:=#[.bool false,.slice none 0 0,.slice none 0 0]) (t:=49) hb4 (zal _ _ _))));have i:=zac a.out 0;have l:=zag a.out 0;have j:=zac a.out 1;have m:=zag a.out 1;have k:=zac a.out 2;have n:=zag a.out 2)))
   | fail)
 all_goals
  go_wp2;go_ret
  exact⟨rfl,x.out.trans (((by assumption:_∧Below wa.heap.size wa _).2).mono x.out.size)⟩
end Lw
theorem zKN:∀a,a≤5→∀b,b≤4→binom (a+b) b≤126:=by decide +kernel
theorem zKB:∀n,n≤4→zor n 1≤LIM:=by unfold LIM;decide +kernel
theorem zKY{m N:Nat}{A:List (List Rat)}{b c:List Rat}{cols:List Nat}(h:Basis m N A cols)(hc:c.length=N)(r:zx5 N A c cols) :
  ∀n,(∀i,i<n→∃k j,zbE N A b c (List.replicate N true) (zvo (zbE N A b c (List.replicate N true)) cols i)=.piv k j)→Basis m N A (zvo (zbE N A b c (List.replicate N true)) cols n)∧zx5 N A c (zvo (zbE N A b c (List.replicate N true)) cols n)
 | 0,_=>⟨h,r⟩
 | n+1,hn=>by
  obtain⟨h1,a⟩:=zKY h hc r n fun i hi=>hn i (by omega)
  obtain⟨k,j,e⟩:=hn n (by omega);have p:=zwH h1 hc e;rw[zvo,e];exact⟨h1.swap p.hk p.hj (by have:=p.t;grind),p.right h1 hc a⟩
theorem zL1{b:List Rat}(a:Basis m N A cols)(d:zhg mw m S (bc A cols))(hb:b.length=m)(zb:∀x∈b,mw x≤S):∀x∈za5 A b cols,mw x≤sB m S S:=by
 have c:=a.len;unfold za5;rw[c];exact zrD (zci a.sq a.reg _).2 (zo0 zo5 a.sq a.reg d fun i hi=>zrz zb (by rw[hb];exact hi))
theorem zLB(a:Basis m N A cols)(c:xs.length=m)(zx:∀x∈xs,mw x≤S)(hS:1≤S):∀q∈zh1 N cols xs,mw q≤S:=fun q hq=>by
 obtain⟨j,hj⟩:=List.mem_iff_getElem?.1 hq;have b:=(List.getElem?_eq_some_iff.1 hj).1;rw[zl8]at b;rw[←znd hj,zvg b,a.len];by_cases hb:Bas m (fun k=>cols.getD k 0) j
 ·obtain⟨k,hk,rfl⟩:=hb;rw[zA7 a.inj _ hk];exact zrz zx (by rw[c];exact hk)
 ·rw[zyz _ hb];exact Nat.le_trans (by decide) hS
theorem zLl(zx:∀x∈xs,mw x≤S):∀q∈scale (-1) xs,mw q≤S:=fun q hq=>by
 obtain⟨x,a,rfl⟩:=List.mem_map.1 hq;rw[show(-1:Rat)*x = -x by grind,zhY];exact zx x a
abbrev zKg (nC nR:Nat) (cost:List Rat) (rows:List PRow):List Nat→Am.Next:=zbE (nC+nR) (zc3 rows) (zg8 rows) (zjD cost rows) (List.replicate (nC+nR) true)
namespace Cheap
variable {nC nR:Nat} {cost:List Rat} {rows:List PRow} (h:Cheap nC nR cost rows)
include h
theorem at_(hk:k<rows.length):rows.getD k default∈rows:=List.mem_of_getElem? (zaO hk)
theorem coefs:∀k,k<rows.length→(rows.getD k default).coef.length=nC:=fun _ hk=>(h.g.rw_ _ (h.at_ hk)).1
theorem kinds:∀k,k<rows.length→(rows.getD k default).kind≠3:=fun _ hk=>h.k3 _ (h.at_ hk)
theorem cntR:cnt rows nR=nR:=zpU h.kinds nR (by rw[h.lr];exact Nat.le_refl _)
theorem basis:Basis nR (nC+nR) (zc3 rows) (zli nC nR):=by have:=zqz h.coefs h.kinds;rwa [h.lr]at this
theorem clen:(zjD cost rows).length=nC+nR:=by unfold zjD;rw[List.length_append,List.length_replicate,h.lc,h.lr,h.cntR]
theorem right:zx5 (nC+nR) (zc3 rows) (zjD cost rows) (zli nC nR):=by have:=zKV h.coefs h.kinds h.lc h.nn;rwa [h.lr]at this
theorem enter_none:zdi (zaC (nC+nR) (zc3 rows) (zli nC nR) (zjD cost rows)) (List.replicate (nC+nR) true)=none:=by
 unfold zdi;refine zhz _ _ fun j _ hj e=>?_
 have a:j<nC+nR:=by
  have l:=zKp (A:=zc3 rows) (cols:=zli nC nR) h.clen;rw[l]at hj;omega
 have:=h.right j a;exact absurd e.2 (Rat.not_lt.2 this)
theorem zA:∀r∈zc3 rows,∀q∈r,mw q≤1:=fun r hr q hq=>by
 unfold zc3 at hr;obtain⟨k,hk,rfl⟩:=List.mem_map.1 hr;rw[List.mem_range]at hk;rcases List.mem_append.1 hq with h1 | h1
 ·exact(h.g.rw_ _ (h.at_ hk)).2.1 q h1
 ·exact zsi rows k q h1
theorem zb:∀q∈zg8 rows,mw q≤1:=fun q hq=>by
 obtain⟨p,a,rfl⟩:=List.mem_map.1 hq;exact(h.g.rw_ p a).2.2
theorem zc:∀q∈zjD cost rows,mw q≤1:=fun q hq=>by
 rcases List.mem_append.1 hq with h1 | h1
 ·exact h.g.sc q h1
 ·rw[(List.mem_replicate.1 h1).2];decide
theorem seq(f:Nat):Basis nR (nC+nR) (zc3 rows) (pivs (zKg nC nR cost rows) f (zli nC nR)).cols∧zx5 (nC+nR) (zc3 rows) (zjD cost rows) (pivs (zKg nC nR cost rows) f (zli nC nR)).cols:=by
 obtain⟨a,b,_⟩:=zoW (zKg nC nR cost rows) f (zli nC nR);rw[a];exact zKY h.basis h.clen h.right _ b
theorem ends:(pivs (zKg nC nR cost rows) 4000 (zli nC nR)).err=false:=by
 cases he:(pivs (zKg nC nR cost rows) 4000 (zli nC nR)).err with
 | false=>rfl
 | true =>
  obtain⟨_,a,c,_⟩:=zoW (zKg nC nR cost rows) 4000 (zli nC nR);obtain⟨h1,d⟩:=c he;have:=zLe (b:=zg8 rows) h.basis h.clen h.right 4001 fun i hi=>by
   by_cases e:i=4000
   ·subst e;exact d
   ·exact a i (by omega)
  have:=zKN nC h.g.hc nR h.g.hr;omega
end Cheap
def zLE (r:RunOut):Int:=match r.at_ with
  | some _=>2
  | none=>1
def zLF (nC nR:Nat) (rows:List PRow) (r:RunOut):List Rat:=match r.at_ with
  | some _=>[]
  | none=>(zh1 (nC+nR) r.cols (za5 (zc3 rows) (zg8 rows) r.cols)).take nC
def zLG (cost:List Rat) (rows:List PRow) (r:RunOut):List Rat:=match r.at_ with
  | some k=>scale (-1) (zbf (zc3 rows) r.cols k)
  | none=>zcl (zc3 rows) r.cols (zjD cost rows)
theorem Cheap.spec(h:Cheap nC nR cost rows)(d:(pivs (zKg nC nR cost rows) f (zli nC nR)).err=false)(c:(pivs (zKg nC nR cost rows) f (zli nC nR)).at_=some k):zbE (nC+nR) (zc3 rows) (zg8 rows) (zjD cost rows) (List.replicate (nC+nR) true) (pivs (zKg nC nR cost rows) f (zli nC nR)).cols=.bad k:=by
 obtain⟨a,_,_,b,_⟩:=zoW (zKg nC nR cost rows) f (zli nC nR);rw[a];have:=b d;rw[c]at this;exact this
theorem Cheap.spec0(h:Cheap nC nR cost rows)(d:(pivs (zKg nC nR cost rows) f (zli nC nR)).err=false)(c:(pivs (zKg nC nR cost rows) f (zli nC nR)).at_=none):zbE (nC+nR) (zc3 rows) (zg8 rows) (zjD cost rows) (List.replicate (nC+nR) true) (pivs (zKg nC nR cost rows) f (zli nC nR)).cols=.stop:=by
 obtain⟨a,_,_,b,_⟩:=zoW (zKg nC nR cost rows) f (zli nC nR);rw[a];have:=b d;rw[c]at this;exact this
theorem Cheap.sizes(h:Cheap nC nR cost rows)(c:(pivs (zKg nC nR cost rows) f (zli nC nR)).err=false) :
  (∀q∈zLF nC nR rows (pivs (zKg nC nR cost rows) f (zli nC nR)),mw q≤sB nR 1 1)∧(∀q∈zLG cost rows (pivs (zKg nC nR cost rows) f (zli nC nR)),mw q≤sB nR 1 1):=by
 have a:=(h.seq f).1;have b:=zLu a h.zA;unfold zLF zLG;cases ha:(pivs (zKg nC nR cost rows) f (zli nC nR)).at_ with
 | some k=>exact⟨fun q hq=>(by cases hq),zLl (ziO a b (Nat.le_refl _) (zCv a (h.spec c ha)))⟩
 | none=>exact⟨fun q hq=>zLB a (a.vals_ok _).2 (zL1 a b (by simp[zg8,h.lr]) h.zb) (zma _ _ _) q (List.mem_of_mem_take hq),znb a b h.clen h.zc⟩
theorem Cheap.cap(h:Cheap nC nR cost rows):8*sB nR 1 1+8≤LIM:=by
 have:=zos (zKB nR h.g.hr);unfold pB at this;omega
def zK8 (w:World) (nC nR:Nat) (cost:List Rat) (rows:List PRow) (r:RunOut) (e:Ending) (w':World):Prop:=∃(P:OA) (nP cP:Nat) (D:OA) (cD:Nat),
  e=.returned (.tuple #[.agg #[.int .i64 (zLE r),(P,nP,cP),(D,nR,cD),(),(r.n:Int)],.nilIface]) ∧
  VecS w' w.heap.size (P,nP,cP) (zLF nC nR rows r)∧VecS w' w.heap.size (D,nR,cD) (zLG cost rows r)∧Below w.heap.size w w'
def zK9 (w:World) (n:Int) (e:Ending) (w':World):Prop:=∃fb,e=.returned (.tuple #[.agg #[.int .i64 0,(),(),(),.int .i64 0],.iface 119 (.pointer (some ⟨fb,0,none⟩))]) ∧
  w'.heap[fb]? = some (.cells #[.string zve,.int .i64 n,.iface 64 (.int .i64 180)] 123 (0,0))∧Below w.heap.size w w'
namespace Du
section
variable {nC nR cC cR tc Hc:Nat} {C R T:OA} {cost:List Rat} {rows:List PRow} {w:World} (hc:VecS w 0 (C,nC,cC) cost) (hr:RowsS w 0 (R,nR,cR) rows) (hi:IntsS w Hc (T,nR,tc) (zli nC nR)) (h:Cheap nC nR cost rows) (budget:Int) (hb:budget≤9223372036854775807)
include hc hr hi h hb
theorem zK1:Calls Tryz.prog 7 #[.agg #[(C,nC,cC),(R,nR,cR)],(T,nR,tc),.int .i64 budget] w (zzb w (nC+nR) nC nR cost rows (pivs (zKg nC nR cost rows) budget.toNat (zli nC nR))):=by
 have h1:=h.g.hc;have b:=h.g.hr;exact Du.solve 1 (Nat.le_refl _) C nC cC R nR cR cost rows (nC+nR) (by rw[h.cntR]) T tc Hc (zli nC nR) budget w hc hr (by omega) (by omega) (fun p a=>⟨(h.g.rw_ p a).1,fun q hq=>Nat.le_trans ((h.g.rw_ p a).2.1 q hq) (by decide),Nat.le_trans (h.g.rw_ p a).2.2 (by decide)⟩) h.g.kd h.g.sc (fun p a=>(h.g.rw_ p a).2) hi h.basis (zKB nR b) hb h.enter_none
theorem zLH(a:(pivs (zKg nC nR cost rows) budget.toNat (zli nC nR)).err=false):Calls Tryz.prog 7 #[.agg #[(C,nC,cC),(R,nR,cR)],(T,nR,tc),.int .i64 budget] w (zK8 w nC nR cost rows (pivs (zKg nC nR cost rows) budget.toNat (zli nC nR))):=by
 refine(zK1 hc hr hi h budget hb).mono ?_;rintro e w' ⟨hb',h1 | ⟨_,k,D,cD,ha,rfl,hv⟩ | ⟨_,ha,P,cP,D,cD,rfl,hv,hd⟩⟩
 ·rw[a]at h1;cases h1.1
 ·exact⟨none,0,0,D,cD,by unfold zLE;rw[ha],by unfold zLF;rw[ha];exact VecS.nil _ _,by unfold zLG;rw[ha];exact hv,hb'⟩
 ·exact⟨P,nC,cP,D,cD,by unfold zLE;rw[ha],by unfold zLF;rw[ha];exact hv,by unfold zLG;rw[ha];exact hd,hb'⟩
end
section
variable {nC nR cC cR tc Hc:Nat} {C R T:OA} {cost:List Rat} {rows:List PRow} {w:World} (hc:VecS w 0 (C,nC,cC) cost) (hr:RowsS w 0 (R,nR,cR) rows) (hi:IntsS w Hc (T,nR,tc) (zli nC nR)) (h:Cheap nC nR cost rows) {r:RunOut} (hq:pivs (zKg nC nR cost rows) 4000 (zli nC nR)=r)
include hc hr hi h hq
theorem zPp:Calls Tryz.prog 7 #[.agg #[(C,nC,cC),(R,nR,cR)],(T,nR,tc),.int .i64 4000] w (zK8 w nC nR cost rows r):=by
 subst hq;exact zLH hc hr hi h 4000 (by decide) h.ends
end
end Du
theorem zQB:∀n,n≤4→sB n 1 1≤1000000:=by decide +kernel
theorem zPU(r:Rat)(h:k<xs.length):el (scale r xs) k=r*el xs k:=znd (zvn (zaH h))
structure Shows (nC nR:Nat) (cost:List Rat) (rows:List PRow) (r:RunOut) (y x:List Rat):Prop where
  ly:y.length=nR
  sy:Sm y
  sx:Sm x
  s1:∀k,k<nR→(rows.getD k default).kind=1→el y k≤0
  s2:∀k,k<nR→(rows.getD k default).kind≠1→0≤el y k
  n1:∀k,r.at_=some k→x=[]∧((scale ((-1:Int):Rat) (sv nC y rows)).any fun q=>decide (q<0))=false∧0<sb y rows
  y1:r.at_=none→x.length=nC∧znD cost rows x=true∧((zly cost ((-1:Int):Rat) (sv nC y rows)).any fun q=>decide (q<0))=false∧dot cost x=sb y rows
theorem zQc:((-1:Int):Rat) = -1:=rfl
theorem Cheap.shows(h:Cheap nC nR cost rows){r:RunOut}(hr:pivs (zKg nC nR cost rows) 4000 (zli nC nR)=r):Shows nC nR cost rows r (zLG cost rows r) (zLF nC nR rows r):=by
 obtain⟨l,G⟩:=h.seq 4000;have m:=h.sizes h.ends;have h0:=fun a=>h.spec0 (f:=4000) h.ends a
 have h1:=fun k a=>h.spec (f:=4000) (k:=k) h.ends a
 have u:=Nat.le_trans (zQB nR h.g.hr) (show 1000000≤4000000 by decide);rw[hr]at l G m h0 h1;have lr:=h.lr;subst lr;have y:Rows nC rows:=fun p d=>⟨(h.g.rw_ p d).1,fun q hq=>Nat.le_trans ((h.g.rw_ p d).2.1 q hq) (by decide),Nat.le_trans (h.g.rw_ p d).2.2 (by decide)⟩
 have J:∀ {q:Rat} {k:Int},k=1→q*((zfI k:Int):Rat)=q:=fun e=>by rw[zKd e];grind
 have K:∀ {q:Rat} {k:Int},k≠1→q*((zfI k:Int):Rat) = -q:=fun e=>by rw[zKe e];grind
 have x:∀ys,(sv nC ys rows).length=nC:=fun ys=>zPw y _ (Nat.le_refl _)
 have F:∀ys j,j<nC→el (sv nC ys rows) j=zai rows.length fun i=>el ys i*el (rows.getD i default).coef j:=fun ys j hj=>zPF y hj _ (Nat.le_refl _)
 cases a:r.at_ with
 | some k =>
  obtain⟨_,_,_,n,B,L⟩:=zL3 h.coefs h.kinds l h.clen (h1 k a);have H:(zbf (zc3 rows) r.cols k).length=rows.length:=(l.weights_ok k).2;have c:zLG cost rows r=scale (-1) (zbf (zc3 rows) r.cols k):=by unfold zLG;rw[a]
  have o:∀i,i<rows.length→el (zLG cost rows r) i = - el (zbf (zc3 rows) r.cols k) i:=fun i hi=>by rw[c,zPU _ (by rw[H];exact hi)];grind
  refine⟨by rw[c,zfH,H],fun q hq=>Nat.le_trans (m.2 q hq) u,fun q hq=>Nat.le_trans (m.1 q hq) u,fun t b e=>?_,fun t b e=>?_,fun P z=>⟨by unfold zLF;rw[a],zNy fun j hj=>?_,?_⟩,fun e=>?_⟩
  ·have:=n t b;rw[J e]at this;rw[o t b];grind
  ·have:=n t b;rw[K e]at this;rw[o t b];grind
  ·rw[zQc];rw[zfH,x]at hj;have:=B j hj;rw[zPU _ (by rw[x];exact hj),F _ j hj,←za7,zaj fun i hi=>by rw[o i hi,show(-1:Rat)*(-el (zbf (zc3 rows) r.cols k) i*el (rows.getD i default).coef j)=el (zbf (zc3 rows) r.cols k) i*el (rows.getD i default).coef j by grind]];exact this
  ·unfold sb zPV;have e:zai rows.length (fun i=>el (zLG cost rows r) i*(rows.getD i default).rhs)=(-1:Rat)*zai rows.length (fun i=>el (zbf (zc3 rows) r.cols k) i*(rows.getD i default).rhs):=by
    rw[←za7];exact zaj fun i hi=>by rw[o i hi];grind
   rw[e];grind
  ·rw[a]at e;cases e
 | none =>
  obtain⟨_,n,B,I,L,Q⟩:=zL2 h.coefs h.kinds l h.lc G (h0 a);have c:zLG cost rows r=zcl (zc3 rows) r.cols (zjD cost rows):=by unfold zLG;rw[a]
  have D:zLF nC rows.length rows r=(zh1 (nC+rows.length) r.cols (za5 (zc3 rows) (zg8 rows) r.cols)).take nC:=by unfold zLF;rw[a]
  have A:(zLF nC rows.length rows r).length=nC:=by rw[D,List.length_take,zl8];omega
  have ex:∀j,j<nC→el (zLF nC rows.length rows r) j=el (zh1 (nC+rows.length) r.cols (za5 (zc3 rows) (zg8 rows) r.cols)) j:=fun j hj=>by
   rw[D];unfold el;rw[List.getD_eq_getElem?_getD,List.getD_eq_getElem?_getD,List.getElem?_take,if_pos hj]
  refine⟨by rw[c];exact(l.duals_ok _).2,fun q hq=>Nat.le_trans (m.2 q hq) u,fun q hq=>Nat.le_trans (m.1 q hq) u,fun t b e=>?_,fun t b e=>?_,fun P z=>(by rw[a]at z;cases z),fun _=>⟨A,?_,zNy fun j hj=>?_,?_⟩⟩
  ·have:=n t b;rw[J e]at this;rw[c];exact this
  ·have:=n t b;rw[K e]at this;rw[c];grind
  ·rw[zoE (by rw[A,h.lc]) (zNy fun j hj=>by rw[A]at hj;rw[ex j hj];exact I j),List.all_eq_true];intro p d;obtain⟨i,hi⟩:=List.mem_iff_getElem?.1 d;have O:=(List.getElem?_eq_some_iff.1 hi).1;have N:rows.getD i default=p:=zfC hi;have s:=L i O;have S:=I (nC+i);rw[N]at s;have M:dot p.coef (zLF nC rows.length rows r)=zai nC fun j=>el p.coef j*el (zh1 (nC+rows.length) r.cols (za5 (zc3 rows) (zg8 rows) r.cols)) j:=by
    unfold dot ziw;rw[(y p d).1];exact zaj fun j hj=>by rw[ex j hj]
   have E:zdp p (zLF nC rows.length rows r) = -(((zfI p.kind:Int):Rat)*el (zh1 (nC+rows.length) r.cols (za5 (zc3 rows) (zg8 rows) r.cols)) (nC+i)):=by
    unfold zdp;rw[M];grind
   unfold zdH;by_cases v:p.kind=1
   ·rw[zKd v]at E;rw[if_pos v,decide_eq_true];grind
   ·rw[zKe v]at E;have k2:p.kind=2:=by have:=h.g.kd p d;have:=h.k3 p d;omega
    rw[if_neg v,if_pos k2,decide_eq_true];grind
  ·rw[zQc];have lc:=h.lc;rw[zdt (by rw[x,lc]),lc]at hj;have:=B j hj;rw[zuD _ (by rw[x,lc]) (by rw[lc];exact hj),F _ j hj,c];grind
  ·unfold dot ziw sb zPV;rw[h.lc,c,←Q];exact zaj fun j hj=>by rw[ex j hj]
end Go.Proofs.YtbhfhkcdfmmmiaaGreatDoor
namespace Go.Proofs.YtbhfhkcdfmmmiaaGreatDoor
open Go.RowKit Am
variable {rows:List PRow}{y:List Rat}{m:Nat}
theorem yIE(c:rows.length=m)(s1:∀k,k<m→(rows.getD k default).kind=1→el y k≤0)(s2:∀k,k<m→(rows.getD k default).kind=2→0≤el y k):zId rows y=true:=by
 unfold zId zxD;rw[List.all_eq_true];intro k hk;have hk:=List.mem_range.1 hk;unfold zIc;have a:=s1 k (by omega);have b:=s2 k (by omega);rw[Bool.not_eq_true',Bool.or_eq_false_iff,Bool.and_eq_false_iff,Bool.and_eq_false_iff,decide_eq_false_iff_not,decide_eq_false_iff_not,decide_eq_false_iff_not,decide_eq_false_iff_not]
 exact⟨by by_cases e:(rows.getD k default).kind=1;exact .inr (Rat.not_lt.2 (a e));exact .inl e,by by_cases e:(rows.getD k default).kind=2;exact .inr (Rat.not_lt.2 (b e));exact .inl e⟩
theorem yIF{nC:Nat}{cost:List Rat}{r:RunOut}{x:List Rat}{o:Int}{X Y Z:List Rat}(hg:Good1 nC m cost rows)(c:cost.length=nC)(u:rows.length=m)(h:Shows nC m cost rows r y x)(h0:Sol nC m cost rows 1 o X Y Z) :
  zLE r=o∧(o=1→x.length=nC∧X.length=nC∧dot cost x=dot cost X):=by
 have d:=h0.sh hg c u;have f:Rows nC rows:=fun p g=>⟨(hg.rw_ p g).1,fun q M=>Nat.le_trans ((hg.rw_ p g).2.1 q M) (by decide),Nat.le_trans (hg.rw_ p g).2.2 (by decide)⟩
 have F:zId rows y=true:=yIE u h.s1 fun k hk e=>h.s2 k hk (by omega)
 have E:Y.length=m→zId rows Y=true:=fun l=>yIE u (fun k hk=>d.s1 k (by omega)) fun k hk=>d.s2 k (by omega)
 cases ha:r.at_ with
 | some k =>
  have s:zLE r=2:=by unfold zLE;rw[ha]
  obtain⟨_,A,B⟩:=h.n1 k ha;have no:=fun z=>yeq (n:=nC) (cost:=cost) (x:=z) (y:=y) f hg.kd c (by unfold yeu;rw[F,A,decide_eq_true B];rfl)
  rcases d.o3 with rfl | rfl | rfl
  ·have:=(d.best rfl).2.2.1;rw[no]at this;cases this
  ·exact⟨s,fun e=>absurd e (by decide)⟩
  ·have:=(d.falls rfl).2.2.2.1;rw[no]at this;cases this
 | none =>
  have s:zLE r=1:=by unfold zLE;rw[ha]
  obtain⟨N,C,J,T⟩:=h.y1 ha;have j:ydS nC cost rows y=true:=by unfold ydS yew;rw[F,J];rfl
  rcases d.o3 with rfl | rfl | rfl
  ·obtain⟨v,D,i,I,S,_⟩:=d.best rfl;have G:ydS nC cost rows Y=true:=by unfold ydS yew;rw[E v,I];rfl
   have a:=weak f hg.kd c j i;have b:=weak f hg.kd c G C;exact⟨s,fun _=>⟨N,D,by grind⟩⟩
  ·obtain⟨v,_,A,B,_⟩:=d.none rfl;have:=yeq (n:=nC) (cost:=cost) (x:=x) (y:=Y) f hg.kd c (by unfold yeu;rw[E v,A,decide_eq_true B];rfl);rw[C]at this;cases this
  ·rcases h0.shows with ⟨e,_⟩ | ⟨e,_⟩ | ⟨_,_,D,i,R,H,hr,Q⟩
   ·exact absurd e (by decide)
   ·exact absurd e (by decide)
   ·have L:0 < -dot cost Z:=by grind
    have O:0≤(dot cost X-sb y rows)*(-dot cost Z)⁻¹+1:=by
     have:=weak f hg.kd c j i;have:=Rat.mul_nonneg (show 0≤dot cost X-sb y rows by grind) (Rat.le_of_lt (Rat.inv_pos.2 L));grind
    have K:=yav (t:=(dot cost X-sb y rows)*(-dot cost Z)⁻¹+1) (fun p g=>by rw[(hg.rw_ p g).1,c]) hg.kd O i (by omega) H hr;have w:=weak f hg.kd c j K;rw[yas (by omega) (by omega)]at w;have e:(-dot cost Z)⁻¹*(-dot cost Z)=1:=Rat.inv_mul_cancel _ (by grind);have P:(dot cost X-sb y rows)*(-dot cost Z)⁻¹*dot cost Z = -(dot cost X-sb y rows):=by
     have:(dot cost X-sb y rows)*(-dot cost Z)⁻¹*dot cost Z = -((dot cost X-sb y rows)*((-dot cost Z)⁻¹*(-dot cost Z))):=by grind
     rw[this,e,Rat.mul_one]
    exact absurd w (by grind)
end Go.Proofs.YtbhfhkcdfmmmiaaGreatDoor
namespace Go.Proofs.YtbhfhkcdfmmmiaaGreatDoor
open Go.RowKit Am
open Lib (hid)
open Pb (zPu ys1)
open Pr (z6X)
open Du (zPp)
attribute [local go_sem ↓] Go.wp_at_zero Go.wp_at_succ
theorem yIJ(C:OA)(nc cc:Nat)(R:OA)(nr a:Nat)(cost:List Rat)(rows:List PRow)(X:OA)(d c:Nat)(x:List Rat)(w:World)(hc:VecS w 0 (C,nc,cc) cost)(hr:RowsS w 0 (R,nr,a) rows)(g:VecS w 0 (X,d,c) x)(i:nc≤1000)(zc:Sm cost)(zx:Sm x) :
  Calls Tryz.prog 9 #[.agg #[(C,nc,cc),(R,nr,a)],(X,d,c)] w fun e w'=>∃(q:Rat) (b:Bool),zii w q b e w'∧(cost.length=x.length→q=dot cost x):=by
 by_cases f:cost.length=x.length
 ·exact(zPu C nc cc R nr a cost rows X d c x w hc hr g f i zc zx).mono fun e w' h=>⟨_,_,h,fun _=>rfl⟩
 ·exact(ys1 C nc cc R nr a cost rows X d c x w hc hr g f).mono fun e w' h=>⟨_,_,h,fun h=>absurd h f⟩
namespace Lw
theorem primal19(A:OA)(m cA:Nat)(L:OA)(o k:Nat)(cs:List (Int × Int))(z:List LineV)(w:World)(hf:zcs w A cs)(ah:zex w L z)(f:m=cs.length)(hm:o=z.length)(a:m≤cA)(ae:o≤k)(hc:cA≤9223372036854775807)(af:k≤9223372036854775807)(hg:w.cell? ⟨0,0,none⟩=some Err.HandleV) :
  Calls Tryz.prog 3 #[.agg #[(A,m,cA),(L,o,k)]] w fun e w'=>e=.returned true∧Below w.heap.size w w':=by
 have HN:=hid f;have HM:=hid hm;have a0:=hid a;have a1:=hid ae;have a2:=hid hc;have a3:=hid af;have a6:=hid hg;clear f hm a ae hc af hg;obtain⟨W,l⟩:∃W,(w.alloc (.cells #[(A,m,cA),(L,o,k)] 25))=W:=⟨_,rfl⟩
 have V:=hid (show W.heap[w.heap.size]? = some (.cells #[(A,m,cA),(L,o,k)] 25 (0,0))by rw[←l];exact zam (by simp));have O:=hid (show Below w.heap.size w W by rw[←l];exact zae w _);have HF:=hid (show zcs W A cs by rw[←l];exact(hf).alloc _);have HL:=hid (show zex W L z by rw[←l];exact(ah).alloc _);obtain⟨du,dA,dv,dn⟩:=bc2 V.out;have B:W.cell? ⟨0,0,none⟩=some Err.HandleV:=by rw[←l];exact cell_al a6.out
 have ez:=zaa B;clear hf ah;go_enter Tryz.func3,Tryz.ntmps3;go_wp2_with fail
 clear l;with_reducible refine(zzh _ B).mono ?_
 rintro e w1 ⟨rfl,a⟩;have aL:=hid (zad a V.out);have cB:=hid (HF.out.below a);have cE:=hid (HL.out.below a);have aK:=hid (O.out.trans ((a).mono O.out.size));obtain⟨ds,dy,dt,dz⟩:=bc2 aL.out;have N:=zab a B;have bm:=zaa N;clear a;go_wp2_with fail
 with_reducible refine(zLV A m cA L o k cs z _ cB.out cE.out HN.out HM.out a0.out a1.out a2.out a3.out).mono ?_
 rintro e t ⟨C,nC,cC,R,nR,cR,T,tc,cost,rows,rfl,hv,hl,hi,hch,a⟩;have dp:=hid (zad a aL.out);have HC:=hid (show VecS t 0 (C,nC,cC) cost from(hv.base (Nat.zero_le _)));have HR:=hid (show RowsS t 0 (R,nR,cR) rows from(hl.base (Nat.zero_le _)));have HI:=hid (show IntsS t 0 (T,nR,tc) (zli nC nR)from(hi.base (Nat.zero_le _)));have aM:=hid (aK.out.trans ((a).mono aK.out.size));obtain⟨dw,dq,dx,dr⟩:=bc2 dp.out;have aO:=zab a N;have bn:=zaa aO;have b:=hid hch;clear hv hl hi hch a
 have v:=zae t (.cells #[(C,nC,cC),(R,nR,cR)] 31);have aq:=hid (HC.out.below v);have am:=hid (HR.out.below v);have bM:=hid (HI.out.below v);have aP:=hid (aM.out.trans ((v).mono aM.out.size));have X:=hid (zal t #[(C,nC,cC),(R,nR,cR)] 31);obtain⟨dL,dB,dM,dC⟩:=bc2 X.out;obtain⟨r,hr⟩:∃r,pivs (zKg nC nR cost rows) 4000 (zli nC nR)=r:=⟨_,rfl⟩
 have HQ:=hid hr;have p:=hid (b.out.shows hr);have U:=hid (z6W b.out.g.toS b.out.g.few b.out.lc b.out.lr);have u:=hid (yIF b.out.g b.out.lc b.out.lr p.out U.out);have bc:=hid (fun(w:World) (h1:VecS w 0 (C,nC,cC) cost) (h2:RowsS w 0 (R,nR,cR) rows)=>z6X 1 C nC cC R nR cR cost rows w h1 h2 b.out.g.toS b.out.g.few);have F:=hid (show Sm cost from fun q c=>Nat.le_trans (b.out.g.sc q c) (by decide))
 have bk:=hid (show Sm (oX nC nR rows (sol nC nR cost rows))from fun q c=>Nat.le_trans (U.out.zx q c) (by have:=zVF nR b.out.g.hr;omega));have E:=hid (show nC≤1000 by have:=b.out.g.hc;omega);clear hr;go_wp2_with fail
 with_reducible refine(zPp aq.out am.out bM.out b.out HQ.out).mono ?_
 rintro e H ⟨P,nP,cP,D,cD,rfl,hp,hd,a⟩;have aN:=hid (zad a X.out);have b4:=hid (aq.out.below a);have ej:=hid (am.out.below a);have S:=hid (show VecS H 0 (P,nP,cP) (zLF nC nR rows r)from(hp.base (Nat.zero_le _)));have aS:=hid (aP.out.trans ((a).mono aP.out.size));obtain⟨dH,dD,dI,dE⟩:=bc2 aN.out;clear hp hd a;generalize zLG cost rows r=y at p u;generalize zLF nC nR rows r=x at p S u
 generalize oO (sol nC nR cost rows)=so,oX nC nR rows (sol nC nR cost rows)=sx,oY nC nR cost rows (sol nC nR cost rows)=sy,oZ nC nR rows (sol nC nR cost rows)=sz,(sol nC nR cost rows).pivots=sn at *
 generalize zLE r=oo at *
 obtain rfl:oo=so:=u.out.1;have s:=zae H (.cells #[.int .i64 oo,(P,nP,cP),(D,nR,cD),(),.int .i64 (r.n:Int)] 37);have aQ:=hid (zad s aN.out);have az:=hid (b4.out.below s);have an:=hid (ej.out.below s);have cv:=hid (S.out.below s);have aT:=hid (aS.out.trans ((s).mono aS.out.size));obtain⟨dJ,dF,dK,dG⟩:=bc2 aQ.out;have Y:=hid (zal H #[.int .i64 oo,(P,nP,cP),(D,nR,cD),(),.int .i64 (r.n:Int)] 37);obtain⟨dY,dO,dZ,dP,d0,dR,d6,dS,d8,dT⟩:=bc5 Y.out
 clear du dA dv dn ds dy dt dz N bm dw dq dx dr aO bn dL dB dM dC dH dD dI dE;go_wp2_with fail
 with_reducible refine(bc.out _ az.out an.out).mono ?_
 rintro e I ⟨P4,np4,cP4,Q4,nq4,cQ4,D4,nd4,cD4,rfl,hp,_,_,a⟩;have aR:=hid (zad a aQ.out);have aV:=hid (zad a Y.out);have cH:=hid (az.out.below a);have bL:=hid (an.out.below a);have cI:=hid (cv.out.below a);have bj:=hid (show VecS I 0 (P4,np4,cP4) sx from hp);have aW:=hid (aT.out.trans ((a).mono aT.out.size));obtain⟨dW,dQ,dX,dN⟩:=bc2 aR.out;obtain⟨ea,d1,eb,d2,ec,d5,ed,d7,ee,d9⟩:=bc5 aV.out;clear hp a
 have j:=zae I (.cells #[.int .i64 oo,(P4,np4,cP4),(Q4,nq4,cQ4),(D4,nd4,cD4),(sn:Int)] 37);have aU:=hid (zad j aR.out);have aY:=hid (zad j aV.out);have aA:=hid (cH.out.below j);have ax:=hid (bL.out.below j);have cG:=hid (cI.out.below j);have br:=hid (bj.out.below j);have aZ:=hid (aW.out.trans ((j).mono aW.out.size));obtain⟨d3,dU,d4,dV⟩:=bc2 aU.out;obtain⟨bw,eo,bz,eq,bB,es,bD,eu,bF,ew⟩:=bc5 aY.out
 have Z:=hid (zal I #[.int .i64 oo,(P4,np4,cP4),(Q4,nq4,cQ4),(D4,nd4,cD4),(sn:Int)] 37);obtain⟨bH,ey,bI,ek,bJ,el,bK,em,bv,en⟩:=bc5 Z.out;clear dJ dF dK dG dY dO dZ dP d0 dR d6 dS d8 dT dW dQ dX dN ea d1 eb d2 ec d5 ed d7 ee d9;go_wp2_with fail
 with_reducible refine(yIJ C nC cC R nR cR cost rows P nP cP x _ aA.out ax.out cG.out E.out F.out p.out.sx).mono ?_
 rintro e J ⟨q5,b5,⟨g5,A5,m5,c5,D5,md5,cd5,rfl,f,a⟩,c⟩;have aX:=hid (zad a aU.out);have ao:=hid (zad a aY.out);have ap:=hid (zad a Z.out);have cz:=hid (aA.out.below a);have cF:=hid (ax.out.below a);have bs:=hid (br.out.below a);have bh:=hid (show RatS J g5 (A5,m5,c5) (D5,md5,cd5) q5 from f);have aw:=hid (aZ.out.trans ((a).mono aZ.out.size));obtain⟨ef,eg,eh,ei⟩:=bc2 aX.out;obtain⟨bx,ep,bA,er,bC,et,bE,ev,bG,ex⟩:=bc5 ao.out;obtain⟨ce,bO,cg,bQ,ci,bY,ck,b0,cm,b2⟩:=bc5 ap.out
 have be:=hid c;clear f a c;have d:=zae J (.cells #[g5,(A5,m5,c5),(D5,md5,cd5)] 49);have ar:=hid (zad d aX.out);have au:=hid (zad d ao.out);have av:=hid (zad d ap.out);have db:=hid (cz.out.below d);have dc:=hid (cF.out.below d);have bt:=hid (bs.out.below d);have bq:=hid (bh.out.below d);have ay:=hid (aw.out.trans ((d).mono aw.out.size));obtain⟨b7,bS,b8,bT⟩:=bc2 ar.out;obtain⟨b9,bU,ca,bV,cb,bW,cc,bX,cd,bN⟩:=bc5 au.out;obtain⟨cf,bP,ch,bR,cj,bZ,cl,b1,cn,b3⟩:=bc5 av.out
 have aa:=hid (zal J #[g5,(A5,m5,c5),(D5,md5,cd5)] 49);obtain⟨cw,cr,cx,ct,cy,cu⟩:=bc3 aa.out;clear d3 dU d4 dV bw eo bz eq bB es bD eu bF ew bH ey bI ek bJ el bK em bv en ef eg eh ei bx ep bA er bC et bE ev bG ex ce bO cg bQ ci bY ck b0 cm b2;go_wp2_with fail
 with_reducible refine(yIJ C nC cC R nR cR cost rows P4 np4 cP4 sx _ db.out dc.out bt.out E.out F.out bk.out).mono ?_
 rintro e K ⟨q6,b6,⟨g6,A6,m6,c6,D6,md6,cd6,rfl,f,a⟩,c⟩;have aH:=hid (zad a ar.out);have aI:=hid (zad a au.out);have aJ:=hid (zad a av.out);have aG:=hid (zad a aa.out);have bo:=hid (bq.out.below a);have bi:=hid (show RatS K g6 (A6,m6,c6) (D6,md6,cd6) q6 from f);have aF:=hid (ay.out.trans ((a).mono ay.out.size));obtain⟨cK,cX,cM,cY⟩:=bc2 aH.out;obtain⟨cN,cZ,cO,c0,dh,dk,di,dl,dj,dm⟩:=bc5 aI.out;obtain⟨cQ,c1,cS,c2,cT,c3,cU,c4,cV,c7⟩:=bc5 aJ.out;obtain⟨cW,c8,dd,c9,de,da⟩:=bc3 aG.out
 have bf:=hid c;clear f a c;have i:=zae K (.cells #[g6,(A6,m6,c6),(D6,md6,cd6)] 49);have aB:=hid (zad i aH.out);have aC:=hid (zad i aI.out);have aD:=hid (zad i aJ.out);have aE:=hid (zad i aG.out);have bu:=hid (bo.out.below i);have bp:=hid (bi.out.below i);have M:=hid (aF.out.trans ((i).mono aF.out.size));obtain⟨fd,fh,fe,fi⟩:=bc2 aB.out;obtain⟨ff,fj,fg,fk,eH,eF,eJ,eB,eL,eD⟩:=bc5 aC.out;obtain⟨e8,fl,e9,fm,fa,fn,fo,fb,fp,fc⟩:=bc5 aD.out;obtain⟨fq,fw,fs,fy,fu,fA⟩:=bc3 aE.out
 have ab:=hid (zal K #[g6,(A6,m6,c6),(D6,md6,cd6)] 49);obtain⟨fJ,fK,fD,fM,fF,fH⟩:=bc3 ab.out;clear b7 bS b8 bT b9 bU ca bV cb bW cc bX cd bN cf bP ch bR cj bZ cl b1 cn b3 cw cr cx ct cy cu cK cX cM cY cN cZ cO c0 dh dk di dl dj dm cQ c1 cS c2 cT c3 cU c4 cV c7 cW c8 dd c9 de da;by_cases ho:oo=1
 ·subst ho;obtain⟨l1,l2,e1⟩:=u.out.2 rfl;have G:=be.out (by rw[b.out.lc,l1]);have e6:=bf.out (by rw[b.out.lc,l2]);have Q:=hid (show q5=q6 by rw[G,e6,e1]);have ba:=hid (show 4*(mw q5+mw q6)+8≤LIM by rw[←Q.out,G,zaP];have:=zDI F.out p.out.sx (by rw[b.out.lc];have:=E.out;omega);omega);clear l1 l2 e1 G e6;go_wp2_with fail
  with_reducible refine(Rt.same g5 A5 m5 c5 D5 md5 cd5 q5 g6 A6 m6 c6 D6 md6 cd6 q6 _ bu.out bp.out ba.out).mono ?_
  rintro e w7 ⟨rfl,a⟩;have co:=hid (zad a aB.out);have cp:=hid (zad a aC.out);have cq:=hid (zad a aD.out);have df:=hid (zad a aE.out);have dg:=hid (zad a ab.out);have cJ:=hid (M.out.trans ((a).mono M.out.size));obtain⟨eZ,eQ,e0,eR⟩:=bc2 co.out;obtain⟨e2,eS,e3,eT,eI,eG,eK,eC,eM,eE⟩:=bc5 cp.out;obtain⟨e4,eU,e7,eV,eN,eW,eO,eX,eP,eY⟩:=bc5 cq.out;obtain⟨fr,fx,ft,fz,fv,fB⟩:=bc3 df.out;obtain⟨fC,fL,fE,fN,fG,fI⟩:=bc3 dg.out;clear a;rw[show zA9 q5 q6=true from decide_eq_true Q.out];go_wp2;go_ret
  exact⟨rfl,cJ.out⟩
 ·go_wp2;go_ret
  exact⟨by simp[ho],M.out⟩
