/- Contracts and lemmas: ErrI RgN RgS. Conditions: as each says. -/
import Derived.LaidEql
import Derived.Stop.Asserts
import Derived.RowKitTokens
import Derived.Test.YtbhfhkcdfmmmiaaGreatRgKZj
set_option linter.all false
set_option maxHeartbeats 4000000
set_option maxRecDepth 100000
namespace Go.Proofs.YtbhfhkcdfmmmiaaGreat
open Go.Proofs.Tryz
open Go.RowKit Go.Extern.Stop Go.Stop Go.Extern
variable {f:Bool}{j n:Int}
namespace Err
theorem ysZ(b:Nat)(x:Value)(w:World)(a:w.cell? ⟨b,2,none⟩=some x):Calls prog 209 #[.pointer (some ⟨b,0,none⟩)] w fun e w'=>e=.returned x∧w'=w:=by
 go_enter func209,ntmps209;go_wp2;go_ret
 exact⟨rfl,rfl⟩
theorem z6e(b:Nat)(w:World)(f:w.cell? ⟨b,2,none⟩=some (.iface 73 (.int .i64 180))):Calls prog 27 #[.iface 224 (.pointer (some ⟨b,0,none⟩)),.iface 73 (.int .i64 180)] w fun d w'=>d=.returned true∧w'=w:=by
 have j := @run_callFunc_extern prog 72 _ ReflectliteType.typeOf func72 (by kernel_rfl) (by kernel_rfl) (by kernel_rfl) (by kernel_rfl);have k := @run_callFunc_extern prog 198 _ (ReflectliteType.method (fun t=>do Rtype.noPackHeld "Comparable" t;pure (.bool (←typeInfo t).comparable))) func198 (by kernel_rfl) (by kernel_rfl) (by kernel_rfl) (by kernel_rfl)
 have m:∀(h:Value) (w:World),(Go.method 390 188 (.agg #[h]) "Comparable").run prog w=.ok (198,.agg #[h]) w:=fun _ _=>by kernel_rfl
 have q:∀(v:Value) (w:World),(ReflectliteType.typeOf #[.iface 73 v]).run prog w=.ok (.iface 188 (.agg #[.pointer (some ⟨0,73,none⟩)])) w:=fun _ _=>by kernel_rfl
 have g:∀w:World,(ReflectliteType.method (fun t=>do Rtype.noPackHeld "Comparable" t;(fun a=>Value.bool a.comparable) <$> typeInfo t) #[.agg #[.pointer (some ⟨0,73,none⟩)]]).run prog w=.ok true w:=fun _=>by kernel_rfl
 have o:∀(v u:Value) (w:World),(binOp .eql 52 (.iface 224 v) (.iface 73 u)).run prog w=.ok false w:=fun v u w=>run_eql_iface_types 224 73 v u underlying52 (by decide) w
 have i:∀w:World,(binOp .eql 52 (.iface 73 (.int .i64 180)) (.iface 73 (.int .i64 180))).run prog w=.ok true w:=fun _=>by kernel_rfl
 have p:∀(v:Value) (c:TypeId) (w:World),(Instr.typeAssert (.iface 224 v) c 190 true).run prog w=.ok (.tuple #[.nilIface,false]) w:=fun v c w=>run_typeAssert_lacksB underlying190 (by kernel_rfl) (by kernel_rfl) v c w
 have l:∀(v:Value) (c:TypeId) (w:World),(Instr.typeAssert (.iface 224 v) c 193 true).run prog w=.ok (.tuple #[.iface 224 v,true]) w:=fun v c w=>run_typeAssert_hasB underlying193 (by kernel_rfl) v c w
 have n:∀(h:Value) (w:World),(Go.method 390 224 h "Unwrap").run prog w=.ok (209,h) w:=fun _ _=>by kernel_rfl
 go_enter func27,ntmps27;go_wp2;refine wp_loop_rounds 2 ?_;rw[rounds_succ];go_wp2_with (go_at_call 209;refine(ysZ b _ _ f).mono ?_;rintro e w' ⟨rfl,rfl⟩)
 rw[rounds_succ];go_wp2;go_ret
 exact⟨rfl,rfl⟩
end Err
open Go.RowKit Am Go.Extern.Stop Go.Stop Go.Extern
open Pb (may fits)
attribute [local go_sem ↓] Go.wp_at_zero Go.wp_at_succ
namespace Err
open Err (ysZ)
theorem y0C(w:World)  : Calls prog 27 #[.iface 73 (.int .i64 1),.iface 73 (.int .i64 1)] w fun b w'=>b=.returned true∧w'=w:=by
 have e := @run_callFunc_extern prog 72 _ ReflectliteType.typeOf func72 (by kernel_rfl) (by kernel_rfl) (by kernel_rfl) (by kernel_rfl);have f := @run_callFunc_extern prog 198 _ (ReflectliteType.method (fun t=>do Rtype.noPackHeld "Comparable" t;pure (.bool (←typeInfo t).comparable))) func198 (by kernel_rfl) (by kernel_rfl) (by kernel_rfl) (by kernel_rfl)
 have g:∀(h:Value) (w:World),(Go.method 390 188 (.agg #[h]) "Comparable").run prog w=.ok (198,.agg #[h]) w:=fun _ _=>by kernel_rfl
 have i:∀(v:Value) (w:World),(ReflectliteType.typeOf #[.iface 73 v]).run prog w=.ok (.iface 188 (.agg #[.pointer (some ⟨0,73,none⟩)])) w:=fun _ _=>by kernel_rfl
 have c:∀w:World,(ReflectliteType.method (fun t=>do Rtype.noPackHeld "Comparable" t;(fun a=>Value.bool a.comparable) <$> typeInfo t) #[.agg #[.pointer (some ⟨0,73,none⟩)]]).run prog w=.ok true w:=fun _=>by kernel_rfl
 have d:∀w:World,(binOp .eql 52 (.iface 73 (.int .i64 1)) (.iface 73 (.int .i64 1))).run prog w=.ok true w:=fun _=>by kernel_rfl
 go_enter func27,ntmps27;go_wp2;refine wp_loop_rounds 1 ?_;rw[rounds_succ];go_wp2;go_ret
 exact⟨rfl,rfl⟩
theorem y0s(w:World)  : Calls prog 27 #[.iface 73 (.int .i64 210),.iface 73 (.int .i64 210)] w fun b w'=>b=.returned true∧w'=w:=by
 have e := @run_callFunc_extern prog 72 _ ReflectliteType.typeOf func72 (by kernel_rfl) (by kernel_rfl) (by kernel_rfl) (by kernel_rfl);have f := @run_callFunc_extern prog 198 _ (ReflectliteType.method (fun t=>do Rtype.noPackHeld "Comparable" t;pure (.bool (←typeInfo t).comparable))) func198 (by kernel_rfl) (by kernel_rfl) (by kernel_rfl) (by kernel_rfl)
 have g:∀(h:Value) (w:World),(Go.method 390 188 (.agg #[h]) "Comparable").run prog w=.ok (198,.agg #[h]) w:=fun _ _=>by kernel_rfl
 have i:∀(v:Value) (w:World),(ReflectliteType.typeOf #[.iface 73 v]).run prog w=.ok (.iface 188 (.agg #[.pointer (some ⟨0,73,none⟩)])) w:=fun _ _=>by kernel_rfl
 have c:∀w:World,(ReflectliteType.method (fun t=>do Rtype.noPackHeld "Comparable" t;(fun a=>Value.bool a.comparable) <$> typeInfo t) #[.agg #[.pointer (some ⟨0,73,none⟩)]]).run prog w=.ok true w:=fun _=>by kernel_rfl
 have d:∀w:World,(binOp .eql 52 (.iface 73 (.int .i64 210)) (.iface 73 (.int .i64 210))).run prog w=.ok true w:=fun _=>by kernel_rfl
 go_enter func27,ntmps27;go_wp2;refine wp_loop_rounds 1 ?_;rw[rounds_succ];go_wp2;go_ret
 exact⟨rfl,rfl⟩
theorem y0m(c:Nat)(w:World)(f:w.cell? ⟨c,2,none⟩=some (.iface 73 (.int .i64 210))):Calls prog 27 #[.iface 224 (.pointer (some ⟨c,0,none⟩)),.iface 73 (.int .i64 210)] w fun d w'=>d=.returned true∧w'=w:=by
 have j := @run_callFunc_extern prog 72 _ ReflectliteType.typeOf func72 (by kernel_rfl) (by kernel_rfl) (by kernel_rfl) (by kernel_rfl);have k := @run_callFunc_extern prog 198 _ (ReflectliteType.method (fun t=>do Rtype.noPackHeld "Comparable" t;pure (.bool (←typeInfo t).comparable))) func198 (by kernel_rfl) (by kernel_rfl) (by kernel_rfl) (by kernel_rfl)
 have m:∀(h:Value) (w:World),(Go.method 390 188 (.agg #[h]) "Comparable").run prog w=.ok (198,.agg #[h]) w:=fun _ _=>by kernel_rfl
 have q:∀(v:Value) (w:World),(ReflectliteType.typeOf #[.iface 73 v]).run prog w=.ok (.iface 188 (.agg #[.pointer (some ⟨0,73,none⟩)])) w:=fun _ _=>by kernel_rfl
 have g:∀w:World,(ReflectliteType.method (fun t=>do Rtype.noPackHeld "Comparable" t;(fun a=>Value.bool a.comparable) <$> typeInfo t) #[.agg #[.pointer (some ⟨0,73,none⟩)]]).run prog w=.ok true w:=fun _=>by kernel_rfl
 have i:∀w:World,(binOp .eql 52 (.iface 73 (.int .i64 210)) (.iface 73 (.int .i64 210))).run prog w=.ok true w:=fun _=>by kernel_rfl
 have o:∀(v u:Value) (w:World),(binOp .eql 52 (.iface 224 v) (.iface 73 u)).run prog w=.ok false w:=fun v u w=>run_eql_iface_types 224 73 v u underlying52 (by decide) w
 have p:∀(v:Value) (b:TypeId) (w:World),(Instr.typeAssert (.iface 224 v) b 190 true).run prog w=.ok (.tuple #[.nilIface,false]) w:=fun v b w=>run_typeAssert_lacksB underlying190 (by kernel_rfl) (by kernel_rfl) v b w
 have l:∀(v:Value) (b:TypeId) (w:World),(Instr.typeAssert (.iface 224 v) b 193 true).run prog w=.ok (.tuple #[.iface 224 v,true]) w:=fun v b w=>run_typeAssert_hasB underlying193 (by kernel_rfl) v b w
 have n:∀(h:Value) (w:World),(Go.method 390 224 h "Unwrap").run prog w=.ok (209,h) w:=fun _ _=>by kernel_rfl
 go_enter func27,ntmps27;go_wp2;refine wp_loop_rounds 2 ?_;rw[rounds_succ];go_wp2_with (go_at_call 209;refine(ysZ c _ _ f).mono ?_;rintro e w' ⟨rfl,rfl⟩)
 rw[rounds_succ];go_wp2;go_ret
 exact⟨rfl,rfl⟩
theorem y0l(c:Nat)(d:Nat)(w:World)(g:w.cell? ⟨c,2,none⟩=some (.iface 224 (.pointer (some ⟨d,0,none⟩))))(i:w.cell? ⟨d,2,none⟩=some (.iface 73 (.int .i64 180))):Calls prog 27 #[.iface 224 (.pointer (some ⟨c,0,none⟩)),.iface 73 (.int .i64 180)] w fun f w'=>f=.returned true∧w'=w:=by
 have l := @run_callFunc_extern prog 72 _ ReflectliteType.typeOf func72 (by kernel_rfl) (by kernel_rfl) (by kernel_rfl) (by kernel_rfl);have m := @run_callFunc_extern prog 198 _ (ReflectliteType.method (fun t=>do Rtype.noPackHeld "Comparable" t;pure (.bool (←typeInfo t).comparable))) func198 (by kernel_rfl) (by kernel_rfl) (by kernel_rfl) (by kernel_rfl)
 have o:∀(h:Value) (w:World),(Go.method 390 188 (.agg #[h]) "Comparable").run prog w=.ok (198,.agg #[h]) w:=fun _ _=>by kernel_rfl
 have s:∀(v:Value) (w:World),(ReflectliteType.typeOf #[.iface 73 v]).run prog w=.ok (.iface 188 (.agg #[.pointer (some ⟨0,73,none⟩)])) w:=fun _ _=>by kernel_rfl
 have j:∀w:World,(ReflectliteType.method (fun t=>do Rtype.noPackHeld "Comparable" t;(fun a=>Value.bool a.comparable) <$> typeInfo t) #[.agg #[.pointer (some ⟨0,73,none⟩)]]).run prog w=.ok true w:=fun _=>by kernel_rfl
 have k:∀w:World,(binOp .eql 52 (.iface 73 (.int .i64 180)) (.iface 73 (.int .i64 180))).run prog w=.ok true w:=fun _=>by kernel_rfl
 have q:∀(v u:Value) (w:World),(binOp .eql 52 (.iface 224 v) (.iface 73 u)).run prog w=.ok false w:=fun v u w=>run_eql_iface_types 224 73 v u underlying52 (by decide) w
 have r:∀(v:Value) (b:TypeId) (w:World),(Instr.typeAssert (.iface 224 v) b 190 true).run prog w=.ok (.tuple #[.nilIface,false]) w:=fun v b w=>run_typeAssert_lacksB underlying190 (by kernel_rfl) (by kernel_rfl) v b w
 have n:∀(v:Value) (b:TypeId) (w:World),(Instr.typeAssert (.iface 224 v) b 193 true).run prog w=.ok (.tuple #[.iface 224 v,true]) w:=fun v b w=>run_typeAssert_hasB underlying193 (by kernel_rfl) v b w
 have p:∀(h:Value) (w:World),(Go.method 390 224 h "Unwrap").run prog w=.ok (209,h) w:=fun _ _=>by kernel_rfl
 go_enter func27,ntmps27;go_wp2;refine wp_loop_rounds 3 ?_;rw[rounds_succ];go_wp2_with (go_at_call 209;refine(ysZ c _ _ g).mono ?_;rintro e w' ⟨rfl,rfl⟩)
 rw[rounds_succ];go_wp2_with (go_at_call 209;refine(ysZ d _ _ i).mono ?_;rintro e w' ⟨rfl,rfl⟩)
 rw[rounds_succ];go_wp2;go_ret
 exact⟨rfl,rfl⟩
end Err
namespace Ra
theorem costNo(S:Nat)(C:OA)(nC b:Nat)(R:OA)(m c:Nat)(cost:List Rat)(rows:List PRow)(X:OA)(d cX:Nat)(x:List Rat)(w:World)(hc:VecS w 0 (C,nC,b) cost)(hr:RowsS w 0 (R,m,c) rows)(u:VecS w 0 (X,d,cX) x)(hg:GoodS S nC m cost rows)(zx:Sm x)(j:Int)(B:Int)(t:j<0∨(nC:Int)≤j∨znD cost rows x=false) :
  Calls prog 25 #[.agg #[(C,nC,b),(R,m,c)],(X,d,cX),.int .i64 j,.int .i64 B] w (fun e w'=>e=.returned (.tuple #[.agg #[false,(),(),false,(),(),false,false],.iface 73 (.int .i64 1)])∧Below w w w'):=by
 have V:=un hg;have ad:=hg.hr;have ac:=hg.hc;have n:=un (show Rows nC rows from fun p g=>⟨(hg.rw_ p g).1,fun q hq=>Zc ((hg.rw_ p g).2.1 q hq) hg.hS,Zc (hg.rw_ p g).2.2 hg.hS⟩);clear hg;have ab:=un zx;have Y:=un t;clear zx t;obtain⟨W,a⟩:∃W,((w.alloc (.cells #[(C,nC,b),(R,m,c)] 31)).alloc (.cells #[false,(),(),false,(),(),false,false] 62))=W:=⟨_,rfl⟩
 have o:=un (show W.heap[w.heap.size]? = some (.cells #[(C,nC,b),(R,m,c)] 31 (0,0))by rw[←a];exact zak (zam (by simp)));have r:=un (show W.heap[w.heap.size+1]? = some (.cells #[false,(),(),false,(),(),false,false] 62 (0,0))by rw[←a];exact zam (by simp));have i:=un (show Below w w W by rw[←a];exact(zae w _).alloc (by simp) _);have HZ:=un (show w.heap.size+2≤W.heap.size by rw[←a];simp)
 have k:=un (show VecS W 0 (C,nC,b) cost by rw[←a];exact((hc).alloc _).alloc _);have l:=un (show RowsS W 0 (R,m,c) rows by rw[←a];exact((hr).alloc _).alloc _);have Z:=un (show VecS W 0 (X,d,cX) x by rw[←a];exact((u).alloc _).alloc _);obtain⟨a5,bb,a6,a0⟩:=bc2 o.o;obtain⟨bk,bj,bu,bg,bh,bm,bn,bd,bo,br,bB,bw,bP,bN,bJ,bF,bQ,bO,bL,bH,aJ,bU,aG,bR,aU,aS,aQ,aK,aV,aT,aX,aN⟩:=bf8 r.o;clear hc hr u;go_enter func25,ntmps25;go_wp2_with fail
 clear a;have aE:=HZ.o;with_reducible refine(may C nC b R m c cost rows _ k.o l.o ac ad n.o V.o.kd).mono ?_
 rintro e w1 ⟨rfl,hb⟩;have I:=un (zad hb o.o);have F:=un (zad hb r.o);have aB:=un (k.o.below hb);have aA:=un (l.o.below hb);have ax:=un (Z.o.below hb);have f:=un (i.o.trans ((hb).mono i.o.size));obtain⟨a3,a9,a4,ba⟩:=bc2 I.o;obtain⟨K,H,bs,be,L,G,bp,bi,J,M,bv,bq,P,N,bK,bG,Q,O,bM,bI,y,T,aH,bS,E,z,aR,aL,D,A,aY,aO⟩:=bf8 F.o;clear hb;by_cases h0:j<0
 ·skip
  go_wp2;refine Zd (v:=.tuple #[.agg #[false,(),(),false,(),(),false,false],.iface 73 (.int .i64 1)]) (by simp[results,results25,go_sem,K,H,L,G,J,M,P,N,Q,O,y,T,E,z,D,A]) rfl ?_;exact⟨rfl,bsc (bsc (bsc (bsc (bsc (bsc (bsc (bsc f.o)))))))⟩
 ·skip
  by_cases h1:(nC:Int)≤j
  ·skip
   go_wp2;refine Zd (v:=.tuple #[.agg #[false,(),(),false,(),(),false,false],.iface 73 (.int .i64 1)]) (by simp[results,results25,go_sem,K,H,L,G,J,M,P,N,Q,O,y,T,E,z,D,A]) rfl ?_;exact⟨rfl,bsc (bsc (bsc (bsc (bsc (bsc (bsc (bsc f.o)))))))⟩
  ·have s:znD cost rows x=false:=by rcases Y.o with h | h | h<;>first | exact h | omega
   have U:=un s;clear s;have h2:j<(nC:Int):=by omega
   go_wp2_with fail
   with_reducible refine(fits C nC b R m c cost rows X d cX x _ aB.o aA.o ax.o (by omega) n.o ab.o (by omega)).mono ?_
   rintro e w2 ⟨rfl,hb⟩;have al:=un (zad hb I.o);have ao:=un (zad hb F.o);have aq:=un (f.o.trans ((hb).mono f.o.size));obtain⟨a7,a1,a8,a2⟩:=bc2 al.o;obtain⟨ap,am,bc,bl,ar,ak,bt,bf,au,an,bC,bx,ay,aw,bD,bz,az,av,bE,bA,af,aC,aI,bT,aj,ag,aW,aM,ai,ah,aZ,aP⟩:=bf8 ao.o;clear hb;rw[U.o];go_wp2
   refine Zd (v:=.tuple #[.agg #[false,(),(),false,(),(),false,false],.iface 73 (.int .i64 1)]) (by simp[results,results25,go_sem,ap,am,ar,ak,au,an,ay,aw,az,av,af,aC,aj,ag,ai,ah]) rfl ?_;exact⟨rfl,bsc (bsc (bsc (bsc (bsc (bsc (bsc (bsc aq.o)))))))⟩
theorem rhsNo(S:Nat)(C:OA)(nC b:Nat)(R:OA)(m c:Nat)(cost:List Rat)(rows:List PRow)(w:World)(hc:VecS w 0 (C,nC,b) cost)(hr:RowsS w 0 (R,m,c) rows)(hg:GoodS S nC m cost rows)(k:Int)(B:Int)(j:k<0∨(m:Int)≤k) :
  Calls prog 28 #[.agg #[(C,nC,b),(R,m,c)],.int .i64 k,.int .i64 B] w (fun e w'=>e=.returned (.tuple #[.agg #[false,(),(),false,(),(),false,false],.iface 73 (.int .i64 1)])∧Below w w w'):=by
 have K:=un hg;have Q:=hg.hr;have P:=hg.hc;have N:=un (show Rows nC rows from fun p d=>⟨(hg.rw_ p d).1,fun q T=>Zc ((hg.rw_ p d).2.1 q T) hg.hS,Zc (hg.rw_ p d).2.2 hg.hS⟩);clear hg;have L:=un j;clear j;obtain⟨W,a⟩:∃W,((w.alloc (.cells #[(C,nC,b),(R,m,c)] 31)).alloc (.cells #[false,(),(),false,(),(),false,false] 62))=W:=⟨_,rfl⟩
 have g:=un (show W.heap[w.heap.size]? = some (.cells #[(C,nC,b),(R,m,c)] 31 (0,0))by rw[←a];exact zak (zam (by simp)));have i:=un (show W.heap[w.heap.size+1]? = some (.cells #[false,(),(),false,(),(),false,false] 62 (0,0))by rw[←a];exact zam (by simp));have f:=un (show Below w w W by rw[←a];exact(zae w _).alloc (by simp) _);have O:=un (show w.heap.size+2≤W.heap.size by rw[←a];simp)
 have J:=un (show VecS W 0 (C,nC,b) cost by rw[←a];exact((hc).alloc _).alloc _);have M:=un (show RowsS W 0 (R,m,c) rows by rw[←a];exact((hr).alloc _).alloc _);obtain⟨aq,aw,ar,an⟩:=bc2 g.o;obtain⟨aD,aC,aL,az,aA,aE,aF,ax,aG,aJ,aO,aN,aZ,aX,aT,aP,a0,aY,aV,aR,aa,a3,Y,a1,aj,ah,af,ab,ak,ai,al,ad⟩:=bf8 i.o;clear hc hr;go_enter func28,ntmps28;go_wp2_with fail
 clear a;have X:=O.o;with_reducible refine(may C nC b R m c cost rows _ J.o M.o P Q N.o K.o.kd).mono ?_
 rintro e w1 ⟨rfl,hb⟩;have V:=un (zad hb g.o);have U:=un (zad hb i.o);have u:=un (f.o.trans ((hb).mono f.o.size));obtain⟨ao,au,ap,av⟩:=bc2 V.o;obtain⟨z,x,aK,ay,A,t,aH,aB,y,D,aM,aI,G,E,aU,aQ,H,F,aW,aS,l,I,Z,a2,s,n,ag,ac,r,o,am,ae⟩:=bf8 U.o;clear hb;by_cases h0:k<0
 ·skip
  go_wp2;refine Zd (v:=.tuple #[.agg #[false,(),(),false,(),(),false,false],.iface 73 (.int .i64 1)]) (by simp[results,results28,go_sem,z,x,A,t,y,D,G,E,H,F,l,I,s,n,r,o]) rfl ?_;exact⟨rfl,bsc (bsc (bsc (bsc (bsc (bsc (bsc (bsc u.o)))))))⟩
 ·have h1:(m:Int)≤k:=by rcases L.o with h | h<;>omega
  go_wp2;refine Zd (v:=.tuple #[.agg #[false,(),(),false,(),(),false,false],.iface 73 (.int .i64 1)]) (by simp[results,results28,go_sem,z,x,A,t,y,D,G,E,H,F,l,I,s,n,r,o]) rfl ?_;exact⟨rfl,bsc (bsc (bsc (bsc (bsc (bsc (bsc (bsc u.o)))))))⟩
end Ra
open Go.RowKit Am
open Lw (yM7)
open Pr (z6X)
open Pb (fits)
open Err (z6e y0C y0s y0m y0l)
theorem y0r(h:¬(0≤j∧j<n∧f=true)):(decide (0≤j)&&decide (j<n)&&f)=false:=by
 rw[Bool.eq_false_iff];intro e;simp only[Xc,decide_eq_true_iff]at e;exact h ⟨e.1.1,e.1.2,e.2⟩
theorem y0J(h:¬(0≤j∧j<n∧f=true)):j<0∨n≤j∨f=false:=by
 by_cases h1:0≤j
 ·by_cases a:j<n
  ·exact .inr (.inr (by cases f<;>simp_all))
  ·exact .inr (.inl (by omega))
 ·exact .inl (by omega)
def y0j (wz:World) (th:Bool) (q:Nat) (ev:Value):Prop :=
  (∃sl sh,th=true∧ev=.nilIface∧wz.cell? ⟨q,6,none⟩=some (.bool sl)∧wz.cell? ⟨q,7,none⟩=some (.bool sh)) ∨
  (wz.cell? ⟨q,6,none⟩=some (.bool false)∧wz.cell? ⟨q,7,none⟩=some (.bool false)∧((th=false∧ev=.iface 73 (.int .i64 1))∨(th=true∧∃fb,ev=.iface 224 (.pointer (some ⟨fb,0,none⟩))∧wz.cell? ⟨fb,2,none⟩=some (.iface 73 (.int .i64 210)))))
theorem y0j.below{wz wy:World}{g:Bool}{q:Nat}{f:Value}(h:y0j wz g q f)(a:Below wz wz wy):y0j wy g q f:=by
 rcases h with ⟨k,sh,c,d,b,e⟩ | ⟨c,d,b | ⟨b,j,e,i⟩⟩
 ·exact .inl ⟨k,sh,c,d,zab a b,zab a e⟩
 ·exact .inr ⟨zab a c,zab a d,.inl b⟩
 ·exact .inr ⟨zab a c,zab a d,.inr ⟨b,j,e,zab a i⟩⟩
namespace Lw
theorem y0n(A:OA)(nA cA:Nat)(L:OA)(nL cL:Nat)(cs:List (Int × Int))(ls:List LineV)(XX:OA)(nx cx:Nat)(xs:List (Int × Int))(j:Int)(n:Nat)(w:World)(hf:zcs w A cs)(ek:zex w L ls)(hx:zcs w XX xs)(hn:nA=cs.length)(hm:nL=ls.length)(a:nA≤cA)(eg:nL≤cL)(hc:cA≤9223372036854775807)(ei:cL≤9223372036854775807)(el:nx=xs.length)(eh:nx≤1048576)(en:n<256) :
  Calls prog 5 #[.agg #[(A,nA,cA),(L,nL,cL)],(XX,nx,cx),.int .i64 j,.int .u8 (n:Int)] w fun e w'=>e=.returned true∧Below w w w':=by
 have HN:=un hn;have HM:=un hm;have eS:=un a;have eT:=un eg;have eU:=un hc;have eV:=un ei;have e7:=un el;have eW:=un eh;have f6:=un en;have ZX:=un (yfb (zyq hx));clear hn hm a eg hc ei el eh en;obtain⟨W,hW⟩:∃W,(w.alloc (.cells #[(A,nA,cA),(L,nL,cL)] 25))=W:=⟨_,rfl⟩
 have eb:=un (show W.heap[w.heap.size]? = some (.cells #[(A,nA,cA),(L,nL,cL)] 25 (0,0))by rw[←hW];exact zam (by simp));have BB:=un (show Below w w W by rw[←hW];exact zae w _);have HF:=un (show zcs W A cs by rw[←hW];exact(hf).alloc _);have HL:=un (show zex W L ls by rw[←hW];exact(ek).alloc _);have e0:=un (show zcs W XX xs by rw[←hW];exact(hx).alloc _);obtain⟨fM,fS,fN,fH⟩:=bc2 eb.o;clear hf ek hx;go_enter func5,ntmps5;go_wp2_with fail
 clear hW;with_reducible refine(yM7 _).mono ?_
 rintro e w1 ⟨rfl,a⟩;have eB:=un (zad a eb.o);have fE:=un (HF.o.below a);have fF:=un (HL.o.below a);have fw:=un (e0.o.below a);have eA:=un (BB.o.trans ((a).mono BB.o.size));obtain⟨fK,fQ,fL,fR⟩:=bc2 eB.o;clear a;go_wp2_with fail
 with_reducible refine(zLD A nA cA L nL cL cs ls _ fE.o fF.o HN.o HM.o eS.o eT.o eU.o eV.o).mono ?_
 rintro e w2 ⟨C,nC,cC,R,c,cR,l,cost,rows,rfl,hv,hl,_,_,hgd,a⟩;have ez:=un (zad a eB.o);have fx:=un (fw.o.below a);have HC:=un (show VecS w2 0 (C,nC,cC) cost from(hv.base (Zb _)));have HR:=un (show RowsS w2 0 (R,c,cR) rows from(hl.toS.base (Zb _)));have eC:=un (eA.o.trans ((a).mono eA.o.size));obtain⟨fO,fI,fP,fJ⟩:=bc2 ez.o;have f:=un hgd;have aQ:=un (show cost.length=nC from hv.len.symm);have aR:=un (show rows.length=c from hl.toS.len.symm)
 clear hv hl hgd a;go_wp2_with fail
 with_reducible refine(make XX nx cx xs _ e7.o fx.o eW.o).mono ?_
 rintro e w3 ⟨X,mx,kx,rfl,hv,a⟩;have fV:=un (zad a ez.o);have fD:=un (HC.o.below a);have fz:=un (HR.o.below a);have HX:=un (show VecS w3 0 (X,mx,kx) (frs xs)from(hv.base (Zb _)));have eD:=un (eC.o.trans ((a).mono eC.o.size));obtain⟨f4,fT,f5,fU⟩:=bc2 fV.o;clear hv a;generalize frs xs=x at *
 have cM:=zae w3 (.cells #[(C,nC,cC),(R,c,cR)] 31);have dC:=un (fD.o.below cM);have d7:=un (fz.o.below cM);have dz:=un (HX.o.below cM);have eE:=un (eD.o.trans ((cM).mono eD.o.size));have KP:=un (zal w3 #[(C,nC,cC),(R,c,cR)] 31);obtain⟨f0,fW,f1,fX⟩:=bc2 KP.o;clear fM fS fN fH fK fQ fL fR fO fI fP fJ f4 fT f5 fU;have ge:=f.o.hr;have gb:=f.o.hc
 have ff:=un (show Rows nC rows from fun p hp=>⟨(f.o.rw_ p hp).1,fun q hq=>Zc ((f.o.rw_ p hp).2.1 q hq) (by decide),Zc (f.o.rw_ p hp).2.2 (by decide)⟩);generalize hth:(decide (0≤j)&&decide (j<(nC:Int))&&znD cost rows x)=th;have bY:=un hth;clear hth;go_upto_region 4 with fail
 generalize hwV:(w3.alloc (.cells #[(C,nC,cC),(R,c,cR)] 31))=V at *
 clear hwV;go_cut[11,12] (fun p ev wz=>∃q:Nat,p=.pointer (some ⟨q,0,none⟩)∧y0j wz th q ev∧Below V V wz)
 case first =>
  by_cases h0:0≤j∧j<(nC:Int)∧znD cost rows x=true
  ·obtain⟨h1,h2,h3⟩:=h0;obtain rfl:th=true:=by rw[←bY.o];simp[h1,h2,h3]
   obtain⟨jn,rfl⟩:=Int.eq_ofNat_of_zero_le h1;have fr:jn<nC:=by omega
   have fc:=un (fun e=>y0t (x:=x) f.o aQ.o aR.o jn e);go_wp2_with fail
   refine(Ra.cost 1 C nC cC R c cR cost rows X mx kx x _ dC.o d7.o dz.o f.o.toS ZX.o jn 4000 1 fr h3 (by decide) (yZC f.o aQ.o aR.o jn)).mono ?_;rintro e u1 ⟨a,h⟩;generalize yOd nC cost rows x jn 4000=o at *
   cases o with
   | spent k=>exact absurd rfl (fc.o k)
   | none k =>
    obtain⟨fb,rfl,bZ⟩:=h;go_wp2;go_meet
    case rel=>exact⟨u1.heap.size,rfl,Or.inr ⟨zac (zal u1 #[false,(),(),false,(),(),false,false] 62) 6,zac (zal u1 #[false,(),(),false,(),(),false,false] 62) 7,.inr ⟨rfl,fb,rfl,cell_al (zac bZ 2)⟩⟩,a.alloc a.size _⟩
   | ends lo hi =>
    obtain⟨gl,U,m1,Z,d1,al,ab,gh,Y,m2,c2,d2,am,ac,rfl,_,_⟩:=h;go_wp2;go_meet
    case rel=>exact⟨u1.heap.size,rfl,Or.inl ⟨lo.isSome,hi.isSome,rfl,rfl,zac (zal u1 #[gl,(U,m1,Z),(d1,al,ab),gh,(Y,m2,c2),(d2,am,ac),.bool lo.isSome,.bool hi.isSome] 62) 6,zac (zal u1 #[gl,(U,m1,Z),(d1,al,ab),gh,(Y,m2,c2),(d2,am,ac),.bool lo.isSome,.bool hi.isSome] 62) 7⟩,a.alloc a.size _⟩
  ·obtain rfl:th=false:=by rw[←bY.o];exact y0r h0
   go_wp2_with fail
   refine(Ra.costNo 1 C nC cC R c cR cost rows X mx kx x _ dC.o d7.o dz.o f.o.toS ZX.o j 4000 (y0J h0)).mono ?_;rintro e u1 ⟨rfl,a⟩;go_wp2;go_meet
   case rel=>exact⟨u1.heap.size,rfl,Or.inr ⟨zac (zal u1 #[false,(),(),false,(),(),false,false] 62) 6,zac (zal u1 #[false,(),(),false,(),(),false,false] 62) 7,.inl ⟨rfl,rfl⟩⟩,a.alloc a.size _⟩
 case rest =>
  rename World=>wz
  obtain⟨q,rfl,ea,m⟩:=hcut;have d6:=un (zad m KP.o);have dD:=un (dC.o.below m);have dB:=un (d7.o.below m);have dA:=un (dz.o.below m);have eF:=un (eE.o.trans ((m).mono eE.o.size));obtain⟨f2,fY,f3,fZ⟩:=bc2 d6.o;clear m;clear f0 fW f1 fX;go_upto_region 5 with fail
  have cJ:=un (Zg wz.heap.size wz);go_cut[13] (fun b wy=>b=th∧Below wz.heap.size wz wy)
  case first =>
   by_cases h1:0≤j
   ·by_cases h2:j<(nC:Int)
    ·obtain rfl:znD cost rows x=th:=by rw[←bY.o];simp[h1,h2]
     go_wp2_with fail
     with_reducible refine(fits C nC cC R c cR cost rows X mx kx x _ dD.o dB.o dA.o (by omega) ff.o ZX.o (by omega)).mono ?_
     rintro e u1 ⟨rfl,a⟩;have bL:=un (zad a d6.o);have aK:=un (dD.o.below a);have ar:=un (dB.o.below a);have fy:=un (dA.o.below a);have aP:=un (cJ.o.trans ((a).mono cJ.o.size));obtain⟨cW,cV,cX,cU⟩:=bc2 bL.o;go_wp2;go_meet
     case rel=>exact⟨rfl,a⟩
    ·obtain rfl:th=false:=by rw[←bY.o];simp[h2]
     go_wp2;go_meet
     case rel=>exact⟨rfl,cJ.o⟩
   ·obtain rfl:th=false:=by rw[←bY.o];simp[h1]
    go_wp2;go_meet
    case rel=>exact⟨rfl,cJ.o⟩
  case rest =>
   rename World=>wy
   obtain⟨rfl,m⟩:=hcut;have d9:=ea.below m;have bL:=un (zad m d6.o);have aK:=un (dD.o.below m);have ar:=un (dB.o.below m);have fy:=un (dA.o.below m);have aP:=un (eF.o.trans ((m).mono eF.o.size));obtain⟨cW,cV,cX,cU⟩:=bc2 bL.o;clear m ea;clear f2 fY f3 fZ;go_upto_region 6 with fail
   go_cut[80] (fun b wx=>b=false∧wx=wy)
   case first =>
    rcases d9 with ⟨sl,sh,rfl,rfl,e3,e4⟩ | ⟨e1,e2,⟨rfl,rfl⟩ | ⟨rfl,fb,rfl,e5⟩⟩
    ·skip
     go_wp2;go_meet
     case rel=>exact⟨rfl,rfl⟩
    ·skip
     go_wp2_with fail
     with_reducible refine(y0C _).mono ?_
     rintro e w' ⟨rfl,rfl⟩;go_wp2;go_meet
     case rel=>exact⟨rfl,rfl⟩
    ·skip
     go_wp2_with fail
     with_reducible refine(y0m fb _ e5).mono ?_
     rintro e w' ⟨rfl,rfl⟩;go_wp2;go_meet
     case rel=>exact⟨rfl,rfl⟩
   case rest =>
    obtain⟨rfl,rfl⟩:=hcut;clear d9;by_cases hk:0≤j∧j<(c:Int)
    ·skip
     obtain⟨h1,h2⟩:=hk;obtain⟨k,rfl⟩:=Int.eq_ofNat_of_zero_le h1;have cN:k<c:=by omega
     by_cases ho:oO (sol nC c cost rows)=1
     ·have DU:=un (yZR f.o aQ.o aR.o ho);obtain⟨lo,hi,he,l1,l2,_⟩:=DU.o.range k cN;have fm:=un l1;have fn:=un l2;obtain⟨K,hK⟩:∃K,n%8=K:=⟨_,rfl⟩
      have ga:K<8:=by omega
      have fs:(n:Int)%8=(K:Int):=by omega
      have gd:(n:Int).tmod 8=(K:Int):=by rw[Int.tmod_eq_emod_of_nonneg (by omega)];exact fs
      have fk:=un (y0u DU.o f.o aQ.o aR.o he K);clear hK;have fi:=un (y0v DU.o f.o aQ.o aR.o he K);have fg:=un (DU.o.s2 k);clear l1 l2 DU;go_wp2_with fail
      refine(Ra.rhs 1 C nC cC R c cR cost rows _ aK.o ar.o f.o.toS k 4000 61 cN (by decide) fg.o).mono ?_;rw[he];rintro e u1 ⟨a,gl,U,m1,Z,d1,al,ab,gh,Y,m2,c2,d2,am,ac,rfl,ai,hx2⟩;have S:=un (zad a bL.o);have cf:=un (aK.o.below a);have ce:=un (ar.o.below a);have eK:=un (show RatS u1 gl (U,m1,Z) (d1,al,ab) (lo.getD 0)from ai);have eG:=un (show RatS u1 gh (Y,m2,c2) (d2,am,ac) (hi.getD 0)from hx2);have T:=un (aP.o.trans ((a).mono aP.o.size))
      obtain⟨cH,cF,cI,cG⟩:=bc2 S.o;clear a ai hx2;have i:=zae u1 (.cells #[gl,(U,m1,Z),(d1,al,ab),gh,(Y,m2,c2),(d2,am,ac),.bool lo.isSome,.bool hi.isSome] 62);have I:=un (zad i S.o);have B:=un (cf.o.below i);have E:=un (ce.o.below i);have eL:=un (eK.o.below i);have eI:=un (eG.o.below i);have z:=un (T.o.trans ((i).mono T.o.size));obtain⟨bM,bN,bO,bP⟩:=bc2 I.o
      have H:=un (zal u1 #[gl,(U,m1,Z),(d1,al,ab),gh,(Y,m2,c2),(d2,am,ac),.bool lo.isSome,.bool hi.isSome] 62);obtain⟨a7,bQ,a8,bR,a9,bS,ba,bT,bb,bU,bd,bc,bK,bI,bJ,bH⟩:=bc8 H.o;clear cW cV cX cU cH cF cI cG;go_wp2_with fail
      with_reducible refine(z6X 1 C nC cC R c cR cost rows _ B.o E.o f.o.toS f.o.few).mono ?_
      rintro e u2 ⟨P,nP,cP,Q,nQ,cQ,D,nD,cD,rfl,_,_,_,a⟩;have s:=un (zad a I.o);have t:=un (zad a H.o);have aL:=un (B.o.below a);have aM:=un (E.o.below a);have eM:=un (eL.o.below a);have eJ:=un (eI.o.below a);have u:=un (z.o.trans ((a).mono z.o.size));obtain⟨aC,aw,aD,ax⟩:=bc2 s.o;obtain⟨aE,ay,aF,az,aG,aA,aH,aB,aI,au,aJ,av,ap,an,aq,ao⟩:=bc8 t.o;clear a;generalize hso:oO (sol nC c cost rows)=so at *
      have g:=zae u2 (.cells #[.int .i64 so,(P,nP,cP),(Q,nQ,cQ),(D,nD,cD),((sol nC c cost rows).pivots:Int)] 76);have F:=un (zad g s.o);have G:=un (zad g t.o);have aN:=un (aL.o.below g);have aO:=un (aM.o.below g);have c0:=un (eM.o.below g);have cY:=un (eJ.o.below g);have r:=un (u.o.trans ((g).mono u.o.size));obtain⟨bi,br,bj,bs⟩:=bc2 F.o;obtain⟨bk,bt,bl,bu,bB,bE,bC,bF,bD,bG,aY,aX,a6,a0,a5,aZ⟩:=bc8 G.o
      have v:=un (zal u2 #[.int .i64 so,(P,nP,cP),(Q,nQ,cQ),(D,nD,cD),((sol nC c cost rows).pivots:Int)] 76);obtain⟨bm,bv,bn,bw,bo,bx,bp,bz,bq,bA⟩:=bc5 v.o;obtain rfl:so=1:=ho;clear bM bN bO bP a7 bQ a8 bR a9 bS ba bT bb bU bd bc bK bI bJ bH aC aw aD ax aE ay aF az aG aA aH aB aI au aJ av ap an aq ao;go_wp2_with fail
      have fj:=un (show zA9 (lo.getD 0) (lo.getD 0)=true from Zs rfl);have fh:=un (show zA9 (hi.getD 0) (hi.getD 0)=true from Zs rfl);refine(Ra.rhs 1 C nC cC R c cR cost rows _ aN.o aO.o f.o.toS k K 61 cN (by omega) fi.o).mono ?_;rcases fk.o with e | ⟨e1,e⟩ | e
      ·skip
       rw[e];rintro e9 y ⟨a,ev,rfl,fb,num,rfl,hnum,bZ⟩;have M:=un (zad a F.o);have N:=un (zad a G.o);have O:=un (zad a v.o);have cB:=un (aN.o.below a);have cE:=un (aO.o.below a);have bX:=un (c0.o.below a);have bW:=un (cY.o.below a);have J:=un (r.o.trans ((a).mono r.o.size));obtain⟨cl,cp,cm,cq⟩:=bc2 M.o;obtain⟨cn,cr,co,ct,b8,b5,b9,b2,ca,b3,cb,b4,cc,b6,cd,b7⟩:=bc8 N.o;obtain⟨cg,cu,ch,cv,ci,cw,cy,cj,cz,ck⟩:=bc5 O.o
       have d:=zae y (.cells #[false,(),(),false,(),(),false,false] 62);have be:=un (zad d M.o);have bf:=un (zad d N.o);have bg:=un (zad d O.o);have ex:=un (cB.o.below d);have ey:=un (cE.o.below d);have c5:=un (bX.o.below d);have cZ:=un (bW.o.below d);have bh:=un (J.o.trans ((d).mono J.o.size));obtain⟨dQ,dH,dR,dI⟩:=bc2 be.o;obtain⟨dS,dJ,dT,dK,dt,dq,du,dm,dv,dn,dw,dp,dx,dr,dy,ds⟩:=bc8 bf.o
       obtain⟨dU,dL,dV,dM,dE,dN,dF,dO,dG,dP⟩:=bc5 bg.o;have KH:=un (zal y #[false,(),(),false,(),(),false,false] 62);obtain⟨dW,dZ,dX,d0,dY,d5,dc,dd,di,de,dj,df,dk,dg,dl,dh⟩:=bc8 KH.o;clear bi br bj bs bk bt bl bu bB bE bC bF bD bG aY aX a6 a0 a5 aZ bm bv bn bw bo bx bp bz bq bA cl cp cm cq cn cr co ct b8 b5 b9 b2 ca b3 cb b4 cc b6 cd b7 cg cu ch cv ci cw cy cj cz ck
       have db:=cell_al (ob:=.cells #[false,(),(),false,(),(),false,false] 62) (zac bZ 2);go_wp2_with fail
       with_reducible refine(z6e fb _ db).mono ?_
       rintro e w' ⟨rfl,rfl⟩;go_wp2;go_ret
       exact⟨rfl,bh.o⟩
      ·skip
       rw[e];rintro e9 y ⟨a,fb,ev,rfl,bZ,fb2,num,rfl,hnum,hfb2⟩;have M:=un (zad a F.o);have N:=un (zad a G.o);have O:=un (zad a v.o);have cB:=un (aN.o.below a);have cE:=un (aO.o.below a);have bX:=un (c0.o.below a);have bW:=un (cY.o.below a);have J:=un (r.o.trans ((a).mono r.o.size));obtain⟨cl,cp,cm,cq⟩:=bc2 M.o;obtain⟨cn,cr,co,ct,b8,b5,b9,b2,ca,b3,cb,b4,cc,b6,cd,b7⟩:=bc8 N.o;obtain⟨cg,cu,ch,cv,ci,cw,cy,cj,cz,ck⟩:=bc5 O.o
       have d:=zae y (.cells #[false,(),(),false,(),(),false,false] 62);have be:=un (zad d M.o);have bf:=un (zad d N.o);have bg:=un (zad d O.o);have ex:=un (cB.o.below d);have ey:=un (cE.o.below d);have c5:=un (bX.o.below d);have cZ:=un (bW.o.below d);have bh:=un (J.o.trans ((d).mono J.o.size));obtain⟨dQ,dH,dR,dI⟩:=bc2 be.o;obtain⟨dS,dJ,dT,dK,dt,dq,du,dm,dv,dn,dw,dp,dx,dr,dy,ds⟩:=bc8 bf.o
       obtain⟨dU,dL,dV,dM,dE,dN,dF,dO,dG,dP⟩:=bc5 bg.o;have KH:=un (zal y #[false,(),(),false,(),(),false,false] 62);obtain⟨dW,dZ,dX,d0,dY,d5,dc,dd,di,de,dj,df,dk,dg,dl,dh⟩:=bc8 KH.o;clear bi br bj bs bk bt bl bu bB bE bC bF bD bG aY aX a6 a0 a5 aZ bm bv bn bw bo bx bp bz bq bA cl cp cm cq cn cr co ct b8 b5 b9 b2 ca b3 cb b4 cc b6 cd b7 cg cu ch cv ci cw cy cj cz ck
       have db:=cell_al (ob:=.cells #[false,(),(),false,(),(),false,false] 62) (zac bZ 2);have ai:=cell_al (ob:=.cells #[false,(),(),false,(),(),false,false] 62) (zac hfb2 2);go_wp2_with fail
       with_reducible refine(y0l fb fb2 _ db ai).mono ?_
       rintro e w' ⟨rfl,rfl⟩;go_wp2;go_ret
       exact⟨rfl,bh.o⟩
      ·skip
       rw[e];rintro e9 y ⟨a,gp,a3,m3,c3,d3,md3,cd3,gq,a4,m4,c4,d4,md4,cd4,rfl,ai,hx2⟩;have M:=un (zad a F.o);have N:=un (zad a G.o);have O:=un (zad a v.o);have cB:=un (aN.o.below a);have cE:=un (aO.o.below a);have bX:=un (c0.o.below a);have bW:=un (cY.o.below a);have eQ:=un (show RatS y gp (a3,m3,c3) (d3,md3,cd3) (lo.getD 0)from ai);have eN:=un (show RatS y gq (a4,m4,c4) (d4,md4,cd4) (hi.getD 0)from hx2)
       have J:=un (r.o.trans ((a).mono r.o.size));obtain⟨cl,cp,cm,cq⟩:=bc2 M.o;obtain⟨cn,cr,co,ct,b8,b5,b9,b2,ca,b3,cb,b4,cc,b6,cd,b7⟩:=bc8 N.o;obtain⟨cg,cu,ch,cv,ci,cw,cy,cj,cz,ck⟩:=bc5 O.o;clear a ai hx2;have d:=zae y (.cells #[gp,(a3,m3,c3),(d3,md3,cd3),gq,(a4,m4,c4),(d4,md4,cd4),.bool lo.isSome,.bool hi.isSome] 62);have be:=un (zad d M.o);have bf:=un (zad d N.o);have bg:=un (zad d O.o);have ex:=un (cB.o.below d)
       have ey:=un (cE.o.below d);have c5:=un (bX.o.below d);have cZ:=un (bW.o.below d);have eR:=un (eQ.o.below d);have eO:=un (eN.o.below d);have bh:=un (J.o.trans ((d).mono J.o.size));obtain⟨dQ,dH,dR,dI⟩:=bc2 be.o;obtain⟨dS,dJ,dT,dK,dt,dq,du,dm,dv,dn,dw,dp,dx,dr,dy,ds⟩:=bc8 bf.o;obtain⟨dU,dL,dV,dM,dE,dN,dF,dO,dG,dP⟩:=bc5 bg.o;have KH:=un (zal y #[gp,(a3,m3,c3),(d3,md3,cd3),gq,(a4,m4,c4),(d4,md4,cd4),.bool lo.isSome,.bool hi.isSome] 62)
       obtain⟨dW,dZ,dX,d0,dY,d5,dc,dd,di,de,dj,df,dk,dg,dl,dh⟩:=bc8 KH.o;clear bi br bj bs bk bt bl bu bB bE bC bF bD bG aY aX a6 a0 a5 aZ bm bv bn bw bo bx bp bz bq bA cl cp cm cq cn cr co ct b8 b5 b9 b2 ca b3 cb b4 cc b6 cd b7 cg cu ch cv ci cw cy cj cz ck;go_wp2_with fail
       with_reducible refine(Rt.same gp a3 m3 c3 d3 md3 cd3 (lo.getD 0) gl U m1 Z d1 al ab (lo.getD 0) _ eR.o c5.o (by have:=fm.o;have:=zaP;omega)).mono ?_
       rintro e u4 ⟨rfl,a⟩;have et:=un (zad a be.o);have er:=un (zad a bf.o);have es:=un (zad a bg.o);have ew:=un (zad a KH.o);have eH:=un (cZ.o.below a);have eP:=un (eO.o.below a);have eu:=un (bh.o.trans ((a).mono bh.o.size));obtain⟨hX,hN,hY,hO⟩:=bc2 et.o;obtain⟨hZ,hP,h4,hQ,gJ,gF,ii,gH,gG,gI,gQ,gR,gY,gW,gZ,gX⟩:=bc8 er.o;obtain⟨h5,hR,h6,hS,h7,hT,h8,hU,h9,hV⟩:=bc5 es.o;obtain⟨ib,ig,ic,ih,ie,ia,gB,g0,gD,g2,gr,gx,gt,gz,gv,gm⟩:=bc8 ew.o;clear a;rw[fj.o]
       clear dQ dH dR dI dS dJ dT dK dt dq du dm dv dn dw dp dx dr dy ds dU dL dV dM dE dN dF dO dG dP dW dZ dX d0 dY d5 dc dd di de dj df dk dg dl dh;go_wp2_with fail
       with_reducible refine(Rt.same gq a4 m4 c4 d4 md4 cd4 (hi.getD 0) gh Y m2 c2 d2 am ac (hi.getD 0) _ eP.o eH.o (by have:=fn.o;have:=zaP;omega)).mono ?_
       rintro e u5 ⟨rfl,a⟩;have fA:=un (zad a et.o);have fB:=un (zad a er.o);have fC:=un (zad a es.o);have fv:=un (zad a ew.o);have fG:=un (eu.o.trans ((a).mono eu.o.size));obtain⟨hA,g4,hC,g5⟩:=bc2 fA.o;obtain⟨hD,g6,hE,g7,hG,g8,hH,g9,hI,ha,hw,hg,gU,gS,gV,gT⟩:=bc8 fB.o;obtain⟨hy,hh,hz,hj,hJ,hs,hL,ht,hM,hu⟩:=bc5 fC.o;obtain⟨gK,gN,gL,gO,gM,gP,gC,g1,gE,g3,gs,gy,gu,gA,gw,gn⟩:=bc8 fv.o;clear a;rw[fh.o];go_wp2;go_ret
       exact⟨rfl,fG.o⟩
     ·have fe:=un (y0q f.o aQ.o aR.o ho k);have HE:=un (show ∀(cols:List Nat) (nn:Nat),zSA (nC+cnt rows c) c (zc3 rows) (zg8 rows) (zjD cost rows) 4000=.best cols nn→False from fun cols nn h=>ho (show oO (sol nC c cost rows)=1 by unfold sol;rw[h];rfl));go_wp2_with fail
      refine(Ra.rhs 1 C nC cC R c cR cost rows _ aK.o ar.o f.o.toS k 4000 61 cN (by decide) (fun cols nn h=>(HE.o cols nn h).elim)).mono ?_;rw[fe.o];rintro e u1 ⟨a,rfl⟩;have S:=un (zad a bL.o);have cf:=un (aK.o.below a);have ce:=un (ar.o.below a);have T:=un (aP.o.trans ((a).mono aP.o.size));obtain⟨cH,cF,cI,cG⟩:=bc2 S.o;clear a;have i:=zae u1 (.cells #[false,(),(),false,(),(),false,false] 62)
      have I:=un (zad i S.o);have B:=un (cf.o.below i);have E:=un (ce.o.below i);have z:=un (T.o.trans ((i).mono T.o.size));obtain⟨bM,bN,bO,bP⟩:=bc2 I.o;have H:=un (zal u1 #[false,(),(),false,(),(),false,false] 62);obtain⟨a7,bQ,a8,bR,a9,bS,ba,bT,bb,bU,bd,bc,bK,bI,bJ,bH⟩:=bc8 H.o;clear cW cV cX cU cH cF cI cG;go_wp2_with fail
      with_reducible refine(z6X 1 C nC cC R c cR cost rows _ B.o E.o f.o.toS f.o.few).mono ?_
      rintro e u2 ⟨P,nP,cP,Q,nQ,cQ,D,nD,cD,rfl,_,_,_,a⟩;have s:=un (zad a I.o);have t:=un (zad a H.o);have aL:=un (B.o.below a);have aM:=un (E.o.below a);have u:=un (z.o.trans ((a).mono z.o.size));obtain⟨aC,aw,aD,ax⟩:=bc2 s.o;obtain⟨aE,ay,aF,az,aG,aA,aH,aB,aI,au,aJ,av,ap,an,aq,ao⟩:=bc8 t.o;clear a;generalize hso:oO (sol nC c cost rows)=so at *
      have g:=zae u2 (.cells #[.int .i64 so,(P,nP,cP),(Q,nQ,cQ),(D,nD,cD),((sol nC c cost rows).pivots:Int)] 76);have F:=un (zad g s.o);have G:=un (zad g t.o);have aN:=un (aL.o.below g);have aO:=un (aM.o.below g);have r:=un (u.o.trans ((g).mono u.o.size));obtain⟨bi,br,bj,bs⟩:=bc2 F.o;obtain⟨bk,bt,bl,bu,bB,bE,bC,bF,bD,bG,aY,aX,a6,a0,a5,aZ⟩:=bc8 G.o
      have v:=un (zal u2 #[.int .i64 so,(P,nP,cP),(Q,nQ,cQ),(D,nD,cD),((sol nC c cost rows).pivots:Int)] 76);obtain⟨bm,bv,bn,bw,bo,bx,bp,bz,bq,bA⟩:=bc5 v.o;have gf:¬so=1:=ho;clear bM bN bO bP a7 bQ a8 bR a9 bS ba bT bb bU bd bc bK bI bJ bH aC aw aD ax aE ay aF az aG aA aH aB aI au aJ av ap an aq ao;go_wp2_with fail
      with_reducible refine(y0s _).mono ?_
      rintro e w' ⟨rfl,rfl⟩;go_wp2;go_ret
      exact⟨rfl,r.o⟩
    ·skip
     go_wp2_with fail
     refine(Ra.rhsNo 1 C nC cC R c cR cost rows _ aK.o ar.o f.o.toS j 4000 (by omega)).mono ?_;rintro e u1 ⟨rfl,a⟩;have S:=un (zad a bL.o);have cf:=un (aK.o.below a);have ce:=un (ar.o.below a);have T:=un (aP.o.trans ((a).mono aP.o.size));obtain⟨cH,cF,cI,cG⟩:=bc2 S.o;clear a;have i:=zae u1 (.cells #[false,(),(),false,(),(),false,false] 62);have I:=un (zad i S.o);have B:=un (cf.o.below i)
     have E:=un (ce.o.below i);have z:=un (T.o.trans ((i).mono T.o.size));obtain⟨bM,bN,bO,bP⟩:=bc2 I.o;have H:=un (zal u1 #[false,(),(),false,(),(),false,false] 62);obtain⟨a7,bQ,a8,bR,a9,bS,ba,bT,bb,bU,bd,bc,bK,bI,bJ,bH⟩:=bc8 H.o;clear cW cV cX cU cH cF cI cG;by_cases h1:0≤j
     ·have h2:¬j<(c:Int):=fun h=>hk ⟨h1,h⟩
      have hd:decide (j<(c:Int))=false:=Zu h2;go_wp2_with fail
      with_reducible refine(z6X 1 C nC cC R c cR cost rows _ B.o E.o f.o.toS f.o.few).mono ?_
      rintro e u2 ⟨P,nP,cP,Q,nQ,cQ,D,nD,cD,rfl,_,_,_,a⟩;have s:=un (zad a I.o);have t:=un (zad a H.o);have aL:=un (B.o.below a);have aM:=un (E.o.below a);have u:=un (z.o.trans ((a).mono z.o.size));obtain⟨aC,aw,aD,ax⟩:=bc2 s.o;obtain⟨aE,ay,aF,az,aG,aA,aH,aB,aI,au,aJ,av,ap,an,aq,ao⟩:=bc8 t.o;clear a;generalize hso:oO (sol nC c cost rows)=so at *
      have g:=zae u2 (.cells #[.int .i64 so,(P,nP,cP),(Q,nQ,cQ),(D,nD,cD),((sol nC c cost rows).pivots:Int)] 76);have F:=un (zad g s.o);have G:=un (zad g t.o);have aN:=un (aL.o.below g);have aO:=un (aM.o.below g);have r:=un (u.o.trans ((g).mono u.o.size));obtain⟨bi,br,bj,bs⟩:=bc2 F.o;obtain⟨bk,bt,bl,bu,bB,bE,bC,bF,bD,bG,aY,aX,a6,a0,a5,aZ⟩:=bc8 G.o
      have v:=un (zal u2 #[.int .i64 so,(P,nP,cP),(Q,nQ,cQ),(D,nD,cD),((sol nC c cost rows).pivots:Int)] 76);obtain⟨bm,bv,bn,bw,bo,bx,bp,bz,bq,bA⟩:=bc5 v.o;clear bM bN bO bP a7 bQ a8 bR a9 bS ba bT bb bU bd bc bK bI bJ bH aC aw aD ax aE ay aF az aG aA aH aB aI au aJ av ap an aq ao;go_wp2_with fail
      with_reducible refine(y0C _).mono ?_
      rintro e w' ⟨rfl,rfl⟩;go_wp2;go_ret
      exact⟨rfl,r.o⟩
     ·skip
      go_wp2_with fail
      with_reducible refine(z6X 1 C nC cC R c cR cost rows _ B.o E.o f.o.toS f.o.few).mono ?_
      rintro e u2 ⟨P,nP,cP,Q,nQ,cQ,D,nD,cD,rfl,_,_,_,a⟩;have s:=un (zad a I.o);have t:=un (zad a H.o);have aL:=un (B.o.below a);have aM:=un (E.o.below a);have u:=un (z.o.trans ((a).mono z.o.size));obtain⟨aC,aw,aD,ax⟩:=bc2 s.o;obtain⟨aE,ay,aF,az,aG,aA,aH,aB,aI,au,aJ,av,ap,an,aq,ao⟩:=bc8 t.o;clear a;generalize hso:oO (sol nC c cost rows)=so at *
      have g:=zae u2 (.cells #[.int .i64 so,(P,nP,cP),(Q,nQ,cQ),(D,nD,cD),((sol nC c cost rows).pivots:Int)] 76);have F:=un (zad g s.o);have G:=un (zad g t.o);have aN:=un (aL.o.below g);have aO:=un (aM.o.below g);have r:=un (u.o.trans ((g).mono u.o.size));obtain⟨bi,br,bj,bs⟩:=bc2 F.o;obtain⟨bk,bt,bl,bu,bB,bE,bC,bF,bD,bG,aY,aX,a6,a0,a5,aZ⟩:=bc8 G.o
      have v:=un (zal u2 #[.int .i64 so,(P,nP,cP),(Q,nQ,cQ),(D,nD,cD),((sol nC c cost rows).pivots:Int)] 76);obtain⟨bm,bv,bn,bw,bo,bx,bp,bz,bq,bA⟩:=bc5 v.o;clear bM bN bO bP a7 bQ a8 bR a9 bS ba bT bb bU bd bc bK bI bJ bH aC aw aD ax aE ay aF az aG aA aH aB aI au aJ av ap an aq ao;go_wp2_with fail
      with_reducible refine(y0C _).mono ?_
      rintro e w' ⟨rfl,rfl⟩;go_wp2;go_ret
      exact⟨rfl,r.o⟩
theorem refuses22i(A:OA)(b cA:Nat)(L:OA)(c a:Nat)(cs:List (Int × Int))(g:List LineV)(f:OA)(d i:Nat)(xs:List (Int × Int))(j k:Int)(w:World)(q:zcs w A cs)(r:zex w L g)(u:zcs w f xs)(t:b=cs.length)(hm:c=g.length)(l:b≤cA)(m:c≤a)(hc:cA≤9223372036854775807)(p:a≤9223372036854775807)(s:d=xs.length)(o:d≤1048576)(hk:0≤k∧k<256) :
  Calls prog 5 #[.agg #[(A,b,cA),(L,c,a)],(f,d,i),.int .i64 j,.int .u8 k] w fun e w'=>e=.returned true∧Below w w w':=by
 obtain⟨n,rfl⟩:=Int.eq_ofNat_of_zero_le hk.1;exact y0n A b cA L c a cs g f d i xs j n w q r u t hm l m hc p s o (by have:=hk.2;omega)
