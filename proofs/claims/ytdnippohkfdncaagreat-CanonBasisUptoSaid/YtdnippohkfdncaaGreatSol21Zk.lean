/- Contracts and lemmas: Sol21. Conditions: as each says. -/
import Derived.Test.YtdnippohkfdncaaGreatCaSZk
set_option linter.all false
set_option maxHeartbeats 1000000
set_option maxRecDepth 100000
namespace Go.Proofs.YtdnippohkfdncaaGreat
open Go.RowKit Am
open Ca (solve)
def cO:COut→Int
  | .spent _=>0
  | .none _=>2
  | .best .. => 1
  | .falls _=>3
section
variable (nC m:Nat) (cost:List Rat) (rows:List PRow)
def cX:COut→List Rat
  | .best _ G _=>ytf nC (nC+cnt rows m+m) (zt0 (zc3 rows) (zg8 rows)) (zwh (zg8 rows)) G
  | _=>[]
def cV:COut→Rat
  | .best _ G _=>dot cost (ytf nC (nC+cnt rows m+m) (zt0 (zc3 rows) (zg8 rows)) (zwh (zg8 rows)) G)
  | _=>0
def cI:COut→List Nat
  | .best cols _ _=>ytJ (nC+cnt rows m) cols
  | _=>[]
def ys6:COut:=ys3 (nC+cnt rows m) m nC (zc3 rows) (zg8 rows) (zjD cost rows) 4000
end
theorem ytx:∀a,a≤9→∀b,b≤4→2*binom (a+b) b+b≤4000:=by decide +kernel
section
variable {nC m:Nat} {cost:List Rat} {rows:List PRow} (hg:Good1 nC m cost rows) (hlc:cost.length=nC) (hlr:rows.length=m)
include hg hlc hlr
theorem ys8:CEnds m (nC+cnt rows m) nC (zc3 rows) (zg8 rows) (zjD cost rows) (ys6 nC m cost rows)∧(ys6 nC m cost rows).pivots≤4000∧∀B,((ys6 nC m cost rows).pivots≤B→ys3 (nC+cnt rows m) m nC (zc3 rows) (zg8 rows) (zjD cost rows) B=ys6 nC m cost rows)∧(B<(ys6 nC m cost rows).pivots→ys3 (nC+cnt rows m) m nC (zc3 rows) (zg8 rows) (zjD cost rows) B=.spent B):=by
 have b:=zVA hg hlc hlr rfl;have c:=zVz hg hlc hlr rfl;have hc:(zjD cost rows).length=nC+cnt rows m:=by unfold zjD;rw[List.length_append,List.length_replicate,hlc,hlr]
 have f:=ytx (nC+cnt rows m) (by have:=hg.hc;have:=hg.hr;have:=zgO rows m;omega) m hg.hr;obtain⟨o,h1,d,a⟩:=yty (own:=nC) b c hc (by omega);have e:ys6 nC m cost rows=o:=(a 4000).1 (by omega);rw[e];exact⟨h1,by omega,a⟩
theorem ytK(n:Nat):ys6 nC m cost rows≠.spent n:=(ys8 hg hlc hlr).1.not n
theorem ytu:(∀q∈cX nC m rows (ys6 nC m cost rows),mw q≤sB m 1 1)∧4*(mw (cV nC m cost rows (ys6 nC m cost rows))+mw (cV nC m cost rows (ys6 nC m cost rows)))+8≤LIM:=by
 have c:=(ys8 hg hlc hlr).1;have zA:=zXc (b:=zg8 rows) (Nat.le_refl 1) (z6N hg hlr);have zb:=zXd (z6O hg);have g:(zwh (zg8 rows)).length=m:=by rw[zUh,zVz hg hlc hlr rfl]
 generalize ys6 nC m cost rows=o at c ⊢;have d:4*(mw 0+mw 0)+8≤LIM:=by rw[zaP];decide +kernel
 cases c with
 | none h f s v=>exact⟨fun q a=>(by cases a),d⟩
 | falls h s=>exact⟨fun q a=>(by cases a),d⟩
 | best h s x e =>
  rename_i G n k L
  have P:∀q∈ytf nC (nC+cnt rows m+m) (zt0 (zc3 rows) (zg8 rows)) (zwh (zg8 rows)) G,mw q≤sB m 1 1:=fun q a=>z0l x.last.1 (x.last.1.vals_ok _).2 (z0n x.last.1 (zLu x.last.1 zA) g zb) (zma _ _ _) q (List.mem_of_mem_take a)
  refine⟨P,?_⟩;have i:=zVF m hg.hr;have:=zDI (xs:=cost) (ys:=ytf nC (nC+cnt rows m+m) (zt0 (zc3 rows) (zg8 rows)) (zwh (zg8 rows)) G) (fun q a=>Nat.le_trans (hg.sc q a) (by decide)) (fun q a=>Nat.le_trans (P q a) (by omega)) (by have:=hg.hc;omega);show 4*(mw (dot cost _)+mw (dot cost _))+8≤LIM
  rw[zaP];omega
end
def yu6 (w:World) (o:Int) (v:Rat) (X:List Rat) (I:List Nat) (n:Nat) (e:Ending) (w':World):Prop :=
  ∃(g:Bool) (A:OA) (m c:Nat) (D:OA) (md cd:Nat) (P:OA) (nP cP:Nat) (Ba:OA) (na ca:Nat),e=.returned (.tuple #[.agg #[.int .i64 o,.bool g,.slice A m c,.slice D md cd,.slice P nP cP],.int .i64 (n:Int),.slice Ba na ca,.nilIface])∧RatS w' g (.slice A m c) (.slice D md cd) v∧VecS w' 0 (.slice P nP cP) X∧IntsS w' 0 (.slice Ba na ca) I∧Below w.heap.size w w'
theorem ytb.a{w:World}{nC m:Nat}{cost:List Rat}{rows:List PRow}{B:Nat}{o:COut}{e:Ending}{w':World}(h:ytb w nC (nC+cnt rows m+m) (zt0 (zc3 rows) (zg8 rows)) (zwh (zg8 rows)) cost B (ytJ (nC+cnt rows m)) o e w')(q:∀n,o≠.spent n):yu6 w (cO o) (cV nC m cost rows o) (cX nC m rows o) (cI nC m rows o) o.pivots e w':=by
 obtain⟨b,h⟩:=h;cases o with
 | spent n=>exact(q n rfl).elim
 | none n=>exact⟨false,none,0,0,none,0,0,none,0,0,none,0,0,h,RatS.zero _,.nil _ _,IntsS.nil _ _,b⟩
 | falls n=>exact⟨false,none,0,0,none,0,0,none,0,0,none,0,0,h,RatS.zero _,.nil _ _,IntsS.nil _ _,b⟩
 | best cols G n =>
  obtain⟨g,A,s,c,D,r,j,P,f,d,t,i,k,hr,p,l⟩:=h;exact⟨g,A,s,c,D,r,j,P,nC,f,d,t,i,k,hr,p.base (Nat.zero_le _),l.base (Nat.zero_le _),b⟩
namespace Ca
section
variable (C:OA) (nC cC:Nat) (R:OA) (m cR:Nat) (cost:List Rat) (rows:List PRow) (w:World) (hc:VecS w 0 (.slice C nC cC) cost) (hr:RowsS w 0 (.slice R m cR) rows) (hg:Good1 nC m cost rows)
include hc hr hg
theorem yvj(K:Nat)(b:(ys6 nC m cost rows).pivots≤K)(c:K≤1000000):Calls Tryz.prog 10 #[.agg #[.slice C nC cC,.slice R m cR],.int .i64 (K:Int)] w (yu6 w (cO (ys6 nC m cost rows)) (cV nC m cost rows (ys6 nC m cost rows)) (cX nC m rows (ys6 nC m cost rows)) (cI nC m rows (ys6 nC m cost rows)) (ys6 nC m cost rows).pivots):=by
 have h:=solve C nC cC R m cR cost rows _ _ K w hc hr hg rfl rfl c;rw[((ys8 hg hc.len.symm hr.len.symm).2.2 K).1 b]at h;exact h.mono fun _ _ h=>h.a (ytK hg hc.len.symm hr.len.symm)
theorem yvm:Calls Tryz.prog 10 #[.agg #[.slice C nC cC,.slice R m cR],.int .i64 4000] w (yu6 w (cO (ys6 nC m cost rows)) (cV nC m cost rows (ys6 nC m cost rows)) (cX nC m rows (ys6 nC m cost rows)) (cI nC m rows (ys6 nC m cost rows)) (ys6 nC m cost rows).pivots) :=
 yvj C nC cC R m cR cost rows w hc hr hg 4000 (ys8 hg hc.len.symm hr.len.symm).2.1 (by decide)
theorem yvn(K:Nat)(b:K<(ys6 nC m cost rows).pivots):Calls Tryz.prog 10 #[.agg #[.slice C nC cC,.slice R m cR],.int .i64 (K:Int)] w fun e w'=>∃(a num:Nat),e=.returned (.tuple #[.agg #[.int .i64 0,.bool false,.slice none 0 0,.slice none 0 0,.slice none 0 0],.int .i64 (K:Int),.slice none 0 0,.iface 232 (.pointer (some ⟨a,0,none⟩))])∧w'.heap[a]? = some (.cells #[.string zve,.int .i64 (num:Int),.iface 89 (.int .i64 180)] 234 (0,0))∧Below w.heap.size w w':=by
 have c:=(ys8 hg hc.len.symm hr.len.symm).2.1;have h:=solve C nC cC R m cR cost rows _ _ K w hc hr hg rfl rfl (by omega);rw[((ys8 hg hc.len.symm hr.len.symm).2.2 K).2 b]at h;exact h.mono fun e w' ⟨hb,a,num,he,_,hf⟩=>⟨a,num,he,hf,hb⟩
end
