/- Contracts and lemmas: CaA CaE. Conditions: as each says. -/
import Derived.Test.YtbhfhkcdfmmmiaaGreatCaKZv
set_option linter.all false
set_option maxHeartbeats 2000000
set_option maxRecDepth 100000
namespace Go.Proofs.YtbhfhkcdfmmmiaaGreat
open Go.RowKit Am Go.Proofs.Tryz
open Pb (zPu)
attribute [local go_sem ↓] Go.wp_at_zero Go.wp_at_succ
def ytf (nC NN:Nat) (A:List (List Rat)) (b:List Rat) (G:List Nat):List Rat:=(zh1 NN G (za5 A b G)).take nC
def ytb (w:World) (nC NN:Nat) (A:List (List Rat)) (b cost:List Rat) (B:Nat) (bo:List Nat→List Nat) (o:COut) (e:Ending) (w':World):Prop :=
  Below w w w'∧match o with
    | .spent n=>∃fb num:Nat,e=.returned (.tuple #[.agg #[.int .i64 0,false,(),(),()],(n:Int),(),.iface 224 (.pointer (some ⟨fb,0,none⟩))])∧num≤B∧w'.heap[fb]? = some (.cells #[.string zve,(num:Int),.iface 73 (.int .i64 180)] 226 (0,0))
    | .none n=>e=.returned (.tuple #[.agg #[.int .i64 2,false,(),(),()],(n:Int),(),.nilIface])
    | .falls n=>e=.returned (.tuple #[.agg #[.int .i64 3,false,(),(),()],(n:Int),(),.nilIface])
    | .best cols G n=>∃(g:Bool) (Av:OA) (mv cv:Nat) (Dv:OA) (mdv cdv:Nat) (P:OA) (cP:Nat) (Ba:OA) (na ca:Nat),e=.returned (.tuple #[.agg #[.int .i64 1,g,(Av,mv,cv),(Dv,mdv,cdv),(P,nC,cP)],(n:Int),(Ba,na,ca),.nilIface]) ∧
        RatS w' g (Av,mv,cv) (Dv,mdv,cdv) (dot cost (ytf nC NN A b G))∧VecS w' w (P,nC,cP) (ytf nC NN A b G)∧IntsS w' w (Ba,na,ca) (bo cols)
section
variable {W0 w w':World} {H q:Nat} {rA:OA} {rc:Nat} {lA:List Value} {bA:OA} {bc_:Nat} {kA:OA} {kc:Nat} {eA:OA} {ec m N S own:Nat} {A:List (List Rat)} {b c:List Rat} {left:List Int}
  {tA:OA} {tc:Nat} {cols:List Nat}
namespace Ca
theorem answer(h:zhi W0 w H q rA rc lA bA bc_ kA kc eA ec m N S own A b c left tA tc cols)(C:OA)(nC l:Nat)(R:OA)(t s:Nat)(cost:List Rat)(rows:List PRow)(hc:VecS w 0 (C,nC,l) cost)(hr:RowsS w 0 (R,t,s) rows)(x:nC≤N)(zc:Sm cost)(Y:sB m S S≤4000000) :
  Calls prog 59 #[.agg #[(C,nC,l),(R,t,s)],.pointer (some ⟨q,0,none⟩)] w fun e w'=>∃(g:Bool) (Av:OA) (mv cv:Nat) (J:OA) (ac U:Nat) (P:OA) (a:Nat),e=.returned (.agg #[.int .i64 1,g,(Av,mv,cv),(J,ac,U),(P,nC,a)])∧RatS w' g (Av,mv,cv) (J,ac,U) (dot cost (ytf nC N A b cols))∧VecS w' w (P,nC,a) (ytf nC N A b cols)∧Below w w w':=by
 have am:=un hc.len;have M:=un x;have aw:=un zc;have aV:=h.std.hN;have ap:=un (show ∀q∈zh1 N cols (za5 A b cols),mw q≤4000000 by
  obtain⟨_,_,_,f⟩:=h;exact fun q I=>Nat.le_trans (z0l f.basis (f.basis.vals_ok _).2 (z0n f.basis f.bas.good.2.2 f.std.blen f.std.zb) (zma _ _ _) q I) Y)
 clear x zc Y;obtain⟨W,k⟩:∃W,((w.alloc (.cells #[(C,nC,l),(R,t,s)] 31)).alloc (.cells #[.int .i64 0,false,(),(),()] 49))=W:=⟨_,rfl⟩
 have O:=un (show W.heap[w.heap.size]? = some (.cells #[(C,nC,l),(R,t,s)] 31 (0,0))by rw[←k];exact zak (zam (by simp)));have Q:=un (show W.heap[w.heap.size+1]? = some (.cells #[.int .i64 0,false,(),(),()] 49 (0,0))by rw[←k];exact zam (by simp));have B:=un (show Below w w W by rw[←k];exact(zae w _).alloc (by simp) _);have HZ:=un (show w.heap.size+2≤W.heap.size by rw[←k];simp)
 have HC:=un (show VecS W 0 (C,nC,l) cost by rw[←k];exact((hc).alloc _).alloc _);have HR:=un (show RowsS W 0 (R,t,s) rows by rw[←k];exact((hr).alloc _).alloc _);have F:=un (show zhi W0 W H q rA rc lA bA bc_ kA kc eA ec m N S own A b c left tA tc cols by rw[←k];exact((h).alloc _).alloc _);obtain⟨ah,_⟩:=bc2 O.o;obtain⟨_,_,_,_,_,_,_,_,_,_,_,_,_,_,_,_,_,cs,_⟩:=bf5 Q.o;clear hc h hr;go_enter func59,ntmps59;have aY:=HZ.o;have aC:=B.o.size
 have aW:(nC:Int)≤(N:Int):=by have:=M.o;omega
 have X:=M.o;go_upto_region 1 with fail
 clear k;go_cut[5] (fun ov wy=>∃(ob:Nat) (P:OA) (a:Nat),ov=.pointer (some ⟨ob,0,none⟩)∧W.heap.size≤ob∧wy.heap[ob]? = some (.cells #[.int .i64 1,false,(),(),(P,nC,a)] 49 (0,0))∧VecS wy W.heap.size (P,nC,a) (ytf nC N A b cols)∧Below W.heap.size W wy)
 case first =>
  refine zaS (S:=fun w'=>w'.cell? ⟨w,0,none⟩=some (C,nC,l)) [8] (h:=fun hHeld=>?_);refine zaw [0,2,3,4] ?_;repeat refine tkL (hS:=hHeld) (h:=?_)
  refine zao ?_;refine zme (i:=1) (j:=7) rfl rfl (by kernel_rfl) (fun K d=>?_) (fun K d=>?_)
  ·skip
   go_simp
   (go_at_call 74;(with_reducible refine(Tb.point F.o.drew).mono ?_);rintro e v1 ⟨P,a,rfl,hv,hb⟩;have r:=It.bdrew0' hb;have z4:=zab r ah;have bm:=cell_al (ob:=(.cells #[.int .i64 0,false,(),(),()] 49)) z4;have u:=un r;have ax:=hv.form.2.1;have az:nC≤a:=(by omega);have E:=un (show VecS v1 W.heap.size (P,nC,a) (ytf nC N A b cols)from(hv.cut nC X).base (Nat.le_refl _));clear hv;clear hb r)
   (try go_wp2_with fail)
   refine d.o _ _ kp fun hHeld=>?_
   clear d K;try simp only[Act.put,pu1,pu2,pu3,pu4,pu5,pu6]
   refine zaw [5,6] ?_;repeat refine tkL (hS:=hHeld) (h:=?_)
   refine zao ?_;refine zaB 7 (h:=fun K d=>?_);go_simp;refine d.o _ _ kp fun hHeld=>?_
   clear d K;try simp only[Act.put,pu1,pu2,pu3,pu4,pu5,pu6]
   refine zay 8 (h:=fun K d=>?_);go_simp;refine d.o _ _ ?_;clear d K;try simp only[Act.put,pu1,pu2,pu3,pu4,pu5,pu6]
   refine zaM (h:=?_);go_wp2;go_meet
   case rel=>exact⟨v1.heap.size,P,a,rfl,u.o.size,zal _ _ _,E.o.alloc _,u.o.alloc u.o.size _⟩
  ·skip
   go_simp;refine d.o _ _ kp fun hHeld=>?_
   clear d K;try simp only[Act.put,pu1,pu2,pu3,pu4,pu5,pu6]
   refine zaB 1 (h:=fun K d=>?_);go_simp
   (go_at_call 74;(first | (with_reducible refine(Tb.point (F.o.drew.alloc _)).mono ?_) | (with_reducible refine(Tb.point ((F.o.alloc _).drew)).mono ?_));rintro e v1 ⟨P,a,rfl,hv,hb⟩;have r:=((zap W 1).trans ((zae _ _).mono (Nat.le_refl _))).trans (hb.mono (by simp));have G:v1.heap[W.heap.size]? = some (.cells #[.int .i64 0,false,(),(),()] 49 (0,0)):=(zad hb (zal W.drew #[.int .i64 0,false,(),(),()] 49));have z4:=zab r ah;have L:=un G;have u:=un r;have ax:=hv.form.2.1;have az:nC≤a:=(by omega);have E:=un (show VecS v1 W.heap.size (P,nC,a) (ytf nC N A b cols)from(hv.cut nC X).base (by simp));clear hv;obtain⟨o0,_,a9,_,o1,_,of1,_,o2,_,bc,_,o3,_,be,_,o4,_,bg,_⟩:=bf5 G;clear hb r G)
   (try go_wp2_with fail)
   refine d.o _ _ kp fun hHeld=>?_
   clear d K;try simp only[Act.put,pu1,pu2,pu3,pu4,pu5,pu6]
   refine zaw [5,6] ?_;repeat refine tkL (hS:=hHeld) (h:=?_)
   refine zao ?_;refine zay 8 (h:=fun K d=>?_);go_simp;refine d.o _ _ ?_;clear d K;try simp only[Act.put,pu1,pu2,pu3,pu4,pu5,pu6]
   refine zaM (h:=?_);go_wp2;go_meet;have y:=zqy L.o (.int .i64 1) false () () (P,nC,a)
   case rel=>exact⟨W.heap.size,P,a,rfl,Nat.le_refl _,zar _ (zar _ (zar _ (zar _ (zar _ L.o)))),E.o.tk y (by decide) (by decide),(((((u.o.setCell (p:=⟨W.heap.size,0,none⟩) (Nat.le_refl _) _).setCell (p:=⟨W.heap.size,1,none⟩) (Nat.le_refl _) _).setCell (p:=⟨W.heap.size,2,none⟩) (Nat.le_refl _) _).setCell (p:=⟨W.heap.size,3,none⟩) (Nat.le_refl _) _).setCell (p:=⟨W.heap.size,4,none⟩) (Nat.le_refl _) _)⟩
 case rest =>
  rename World=>wy
  obtain⟨ob,P,a,rfl,aX,V,f,n⟩:=hcut;have T:=un V;have D:=un f;have ag:=un (zad n O.o);have ai:=un (zad n Q.o);have aE:=un (HC.o.below n);have aS:=un (HR.o.below n);have aj:=un (B.o.trans ((n).mono B.o.size));obtain⟨bu,_,bv,_⟩:=bc2 ag.o;obtain⟨_,_,_,_,_,_,_,_,_,_,_,_,_,_,_,_,_,_,cd,_⟩:=bf5 ai.o;obtain⟨_,_,_,_,_,_,_,_,_,_,_,_,_,_,_,_,cY,_⟩:=bf5 T.o;clear n f V
  have ao:=un (D.o.len.symm);have aq:=un (show Sm (ytf nC N A b cols)from fun q I=>ap.o q (List.mem_of_mem_take I));have an:=un (show cost.length=(ytf nC N A b cols).length by rw[ao.o];exact am.o.symm);have aB:nC≤1000:=by omega
  go_wp2_with fail
  with_reducible refine(zPu C nC l R t s cost rows P nC a (ytf nC N A b cols) _ aE.o aS.o (D.o.base (Nat.zero_le _)) an.o aB aw.o aq.o).mono ?_
  rintro e w3 ⟨g2,A2,m2,c2,D2,md2,cd2,rfl,x,hb⟩;have ak:=un (zad hb ai.o);have z:=un (zad hb T.o);have aF:=un (D.o.below hb);have HS:=un (x);have aH:=un (aj.o.trans ((hb).mono aj.o.size));obtain⟨aN,aI,cl,_,aO,aJ,cj,_,aP,aK,ck,_,aQ,aM,cn,_,aR,aL,cp,_⟩:=bf5 ak.o
  obtain⟨cM,_,_,_,cN,_,cV,_,cO,_,cW,_,cX,_,bo,_,cZ,_⟩:=bf5 z.o;clear x hb;go_wp2;refine bodyPost_ret (v:=.agg #[.int .i64 1,g2,(A2,m2,c2),(D2,md2,cd2),(P,nC,a)]) (by simp[results,results59,go_sem,aN,aI,aO,aJ,aP,aK,aQ,aM,aR,aL]) rfl ?_;have Z:=TKeep.set (o:=1) (z.o) g2;have aa:=TKeep.set (o:=2) (zar (o:=1) g2 (z.o)) (A2,m2,c2)
  have ab:=TKeep.set (o:=3) (zar (o:=2) (A2,m2,c2) (zar (o:=1) g2 (z.o))) (D2,md2,cd2)
  have aA:(((w3.setCell ⟨ob,1,none⟩ g2).setCell ⟨ob,2,none⟩ (A2,m2,c2)).setCell ⟨ob,3,none⟩ (D2,md2,cd2)).heap[w.heap.size+1]? = some (.cells #[.int .i64 0,false,(),(),()] 49 (0,0)):=by rw[Below.heap_setCell _ _ _ _ (by show w.heap.size+1≠ob;omega),Below.heap_setCell _ _ _ _ (by show w.heap.size+1≠ob;omega),Below.heap_setCell _ _ _ _ (by show w.heap.size+1≠ob;omega)];exact ak.o
  have y:=zqy aA (.int .i64 1) g2 (A2,m2,c2) (D2,md2,cd2) (P,nC,a)
  exact⟨g2,A2,m2,c2,D2,md2,cd2,P,a,rfl,((((HS.o.tk Z (by decide)).tk aa (by decide)).tk ab (by decide)).tk y (by decide)),(((((aF.o.base aC).tk Z (by decide) (by decide)).tk aa (by decide) (by decide)).tk ab (by decide) (by decide)).tk y (by decide) (by decide)),((((((((aH.o.setCell (p:=⟨ob,1,none⟩) (by show w.heap.size≤ob;omega) _).setCell (p:=⟨ob,2,none⟩) (by show w.heap.size≤ob;omega) _).setCell (p:=⟨ob,3,none⟩) (by show w.heap.size≤ob;omega) _).setCell (p:=⟨w.heap.size+1,0,none⟩) (by show w.heap.size≤w.heap.size+1;omega) _).setCell (p:=⟨w.heap.size+1,1,none⟩) (by show w.heap.size≤w.heap.size+1;omega) _).setCell (p:=⟨w.heap.size+1,2,none⟩) (by show w.heap.size≤w.heap.size+1;omega) _).setCell (p:=⟨w.heap.size+1,3,none⟩) (by show w.heap.size≤w.heap.size+1;omega) _).setCell (p:=⟨w.heap.size+1,4,none⟩) (by show w.heap.size≤w.heap.size+1;omega) _)⟩
end Ca
end
namespace Ca
theorem ytd(S:Nat)(hS:8*S+8≤LIM)(o:Int)(q:Rat)(xs:List Rat)(g:Bool)(A:OA)(m c:Nat)(D:OA)(r l:Nat)(P:OA)(n j:Nat)(g':Bool)(d:OA)(m' c':Nat)(f:OA)(s p:Nat)(i:OA)(v k:Nat)(w:World)(F:RatS w g (A,m,c) (D,r,l) q)(t:VecS w 0 (P,n,j) xs)(G:RatS w g' (d,m',c') (f,s,p) q)(u:VecS w 0 (i,v,k) xs)(E:4*(mw q+mw q)+8≤LIM)(zx:∀x∈xs,mw x≤S) :
  Calls prog 17 #[.agg #[.int .i64 o,g,(A,m,c),(D,r,l),(P,n,j)],.agg #[.int .i64 o,g',(d,m',c'),(f,s,p),(i,v,k)]] w fun e w'=>e=.returned true∧Below w w w':=by
 have Q:=un hS;have O:=un E;have z:=un zx;obtain rfl:n=v:=t.len.trans u.len.symm;clear hS E zx;obtain⟨W,a⟩:∃W,((w.alloc (.cells #[.int .i64 o,g,(A,m,c),(D,r,l),(P,n,j)] 49)).alloc (.cells #[.int .i64 o,g',(d,m',c'),(f,s,p),(i,n,k)] 49))=W:=⟨_,rfl⟩
 have B:=un (show W.heap[w.heap.size]? = some (.cells #[.int .i64 o,g,(A,m,c),(D,r,l),(P,n,j)] 49 (0,0))by rw[←a];exact zak (zam (by simp)));have C:=un (show W.heap[w.heap.size+1]? = some (.cells #[.int .i64 o,g',(d,m',c'),(f,s,p),(i,n,k)] 49 (0,0))by rw[←a];exact zam (by simp));have y:=un (show Below w w W by rw[←a];exact(zae w _).alloc (by simp) _)
 have L:=un (show RatS W g (A,m,c) (D,r,l) q by rw[←a];exact((F).alloc _).alloc _);have R:=un (show VecS W 0 (P,n,j) xs by rw[←a];exact((t).alloc _).alloc _);have M:=un (show RatS W g' (d,m',c') (f,s,p) q by rw[←a];exact((G).alloc _).alloc _);have T:=un (show VecS W 0 (i,n,k) xs by rw[←a];exact((u).alloc _).alloc _);obtain⟨ai,aq,aj,ad,aw,aF,a7,a3,a9,a5⟩:=bc5 B.o;obtain⟨aD,ay,ax,aG,aJ,aK,aX,aP,aZ,aS⟩:=bc5 C.o;clear F t G u
 go_enter func17,ntmps17;go_wp2_with fail
 clear a;with_reducible refine(Ct.same_yes g A m c D r l q g' d m' c' f s p q _ L.o M.o O.o rfl).mono ?_
 rintro e w1 ⟨rfl,hb⟩;have K:=un (zad hb B.o);have I:=un (zad hb C.o);have V:=un (R.o.below hb);have U:=un (T.o.below hb);have J:=un (y.o.trans ((hb).mono y.o.size));obtain⟨ag,ao,ah,ap,au,aA,a8,a4,ba,a6⟩:=bc5 K.o;obtain⟨az,am,aE,ac,ar,aH,aY,aQ,a0,aT⟩:=bc5 I.o;clear hb;go_wp2_with fail
 with_reducible refine(Vc.same S Q.o P n j xs 0 i n k xs 0 _ V.o U.o z.o z.o).mono ?_
 rintro e w2 ⟨rfl,hb⟩;have X:=un (zad hb K.o);have Y:=un (zad hb I.o);have Z:=un (J.o.trans ((hb).mono J.o.size));obtain⟨ak,ae,al,af,aM,aL,a1,aW,a2,aV⟩:=bc5 X.o;obtain⟨aB,an,aC,ab,aI,av,aR,aO,aU,aN⟩:=bc5 Y.o;clear hb;rw[show decide (xs=xs)=true from decide_eq_true rfl];go_wp2;go_ret
 exact⟨rfl,Z.o⟩
