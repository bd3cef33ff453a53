/- What is handed in,as it reads: pairs,rows of pairs,lines,answers. Conditions: as each says. What the cards' conditions give a walk,for each law of the seat: the variable errors.errorType's one cell;a problem that is handed in. Conditions: as each says. What lies in memory where a literal is built. Conditions: as each says. actuarylaw16.Make by its contract. Conditions: as it says. dual.All by its contract. Conditions: as it says. What lies in memory while actuarylaw16.Right fills a row up. Conditions: as each says. vec.Cmp,Same by their contracts. Conditions: as each says. Fractions of numbers that an int holds are short. Conditions: as each says. Conditions: as they say. -/
import Derived.Test.YtdbgbaiekpbaoaaGreatDoorRows
import Derived.Test.YtdbgbaiekpbaoaaGreatDoorBoolsZp
import Derived.ProofKit
import Derived.OpenShut
import Derived.JoinedCond
import Derived.Deep.Slices
import Derived.Deep.Grids
import Derived.Test.YtdbgbaiekpbaoaaGreatDoorCards
import Derived.Test.YtdbgbaiekpbaoaaGreatDoorTie
import Derived.Test.YtdbgbaiekpbaoaaGreatDoorErrZp
import Derived.ChangeSame
import Derived.ChangeVars
import Derived.LaidLaws
import Derived.LaidHandle
import Derived.Stop.Joined
import Derived.Deep.DeepHandedRow
import Derived.SevenTiedAt
import Derived.Laws.Small
set_option linter.all false
namespace Go.Proofs.YtdbgbaiekpbaoaaGreatDoor
open Go.ChangeShapes Go.WideShapes Go.ChangeAt Go.RowKit Go.Deep
set_option maxRecDepth 100000
set_option maxHeartbeats 4000000
theorem own:ownKnob Tryz.prog.godebug = none:=by kernel_rfl
theorem zqj:laidOutB Tryz.prog = true:=by kernel_rfl
theorem zkC:Tryz.prog.cellsOf 121 = 2:=by kernel_rfl
theorem zKC:Tryz.prog.cellsOf 248 = 4:=by kernel_rfl
theorem zwz:Tryz.prog.cellsOf 3 = 1:=by kernel_rfl
theorem zLd:Tryz.prog.cellsOf 108 = 1:=by kernel_rfl
theorem zKr:Tryz.prog.cellsOf 22 = 1:=by kernel_rfl
theorem zK3:Tryz.prog.cellsOf 42 = 1:=by kernel_rfl
theorem zLt:Tryz.prog.cellsOf 44 = 2:=by kernel_rfl
theorem zmS (b o k:Nat):(⟨b,o,none⟩:Addr).add k = ⟨b,o + k,none⟩:=by unfold Addr.add;split <;> simp_all
theorem zuZ {α:Type} {Q:Nat → α → Prop}:∀ n:Nat,(∀ i,i < n → ∃ x,Q i x) → ∃ l:List α,l.length = n ∧ ∀ i x,l[i]? = some x → Q i x
 | 0,_ => ⟨[],rfl,fun i x h => by simp at h⟩
 | n + 1,h => by
  obtain ⟨l,hl,hq⟩:=zuZ n (fun i hi => h i (by omega))
  obtain ⟨x,hx⟩:=h n (by omega)
  refine ⟨l ++ [x],by simp [hl],fun i y hy => ?_⟩
  rcases Nat.lt_trichotomy i l.length with h1 | h1 | h1
  ·rw [List.getElem?_append_left h1] at hy;exact hq i y hy
  ·subst h1;rw [List.getElem?_append_right (Nat.le_refl _)] at hy;simp at hy;subst hy;rw [hl];exact hx
  ·rw [List.getElem?_eq_none (by simp;omega)] at hy;cases hy
theorem zDM {H:Type} (d:DataW H):1 ≤ Rows.uptoBulk d:=by
 cases d with
 | lit l => cases l <;> simp [Rows.uptoBulk]
 | nil => simp [Rows.uptoBulk]
 | ptr d => simp [Rows.uptoBulk]
 | slice elems spare => simp [Rows.uptoBulk]
 | agg parts => simp [Rows.uptoBulk]
 | iface t d => simp [Rows.uptoBulk]
 | map entries => simp [Rows.uptoBulk]
 | held h => simp [Rows.uptoBulk]
theorem zKR {H:Type} {d:DataW H} {l:List (DataW H)} (h:d ∈ l):Rows.uptoBulk d ≤ Rows.uptoBulkAll l:=by
 induction l with
 | nil => cases h
 | cons x r ih =>
  simp only [Rows.uptoBulkAll]
  cases List.mem_cons.1 h with
  | inl e => subst e;omega
  | inr e => have:=ih e;omega
theorem zoK {H:Type} (l:List (DataW H)):l.length ≤ Rows.uptoBulkAll l:=by
 induction l with
 | nil => simp [Rows.uptoBulkAll]
 | cons x r ih => have:=zDM x;simp only [Rows.uptoBulkAll,List.length_cons];omega
theorem i64_of {x:Int} (h:(Lit.int .i64 x).wf = true):I64 x:=by
 simp [Lit.wf,IntKind.min,IntKind.max,IntKind.signed,IntKind.bits] at h
 exact ⟨h.1,h.2⟩
section
variable {H:Type} {enc:TypeId × Value → H} {W:World} {base:Nat} {sp:Nat → Bool} {held:Bool}
theorem zAH {fuel:Nat} {cs:List Value} {x:DataW H × List MemPlace} (h:DataW.trod enc Tryz.prog W base sp held fuel 121 cs = some x):∃ a b:Int,cs = [.int .i64 a, .int .i64 b] ∧ I64 a ∧ I64 b:=by
 obtain ⟨ys,n',_,_,hl,hyl,hg⟩:=DataW.trod_struct Tryz.underlying121 h
 rw [zkC] at hl
 match cs,hl with
 | [c0,c1],_ =>
  have g0:DataW.trod enc Tryz.prog W base sp held n' 3 ([c0,c1].take (Tryz.prog.cellsOf 3)) = ys[0]?:=hg 0 _ rfl
  have g1:DataW.trod enc Tryz.prog W base sp held n' 3 ([c1].take (Tryz.prog.cellsOf 3)) = ys[1]?:=hg 1 _ rfl
  rw [zwz] at g0 g1
  have hy:ys.length = 2:=hyl
  rw [List.getElem?_eq_getElem (show 0 < ys.length by omega)] at g0
  rw [List.getElem?_eq_getElem (show 1 < ys.length by omega)] at g1
  obtain ⟨a,ha,_,wa⟩:=DataW.trod_int Tryz.underlying3 g0
  obtain ⟨b,hb,_,wb⟩:=DataW.trod_int Tryz.underlying3 g1
  simp at ha hb
  subst ha hb
  exact ⟨a,b,rfl,i64_of wa,i64_of wb⟩
theorem zrv {fuel:Nat} {cs:List Value} {x:DataW H × List MemPlace} (h:DataW.trod enc Tryz.prog W base sp held fuel 22 cs = some x) :
  ∃ (A:Option Addr) (n cp:Nat) (ps:List (Int × Int)),cs = [.slice A n cp] ∧ n = ps.length ∧ zcs W A ps ∧ n ≤ cp ∧ cp ≤ 9223372036854775807 ∧ n ≤ Rows.uptoBulk x.1:=by
 rcases open_slice Tryz.underlying22 h with ⟨hcs,hx⟩ | ⟨a,len,cap,m,q,D,Pl,hcs,_,hl,hm,hmm,hx,hel⟩
 ·exact ⟨none,0,0,[],hcs,rfl,fun k y hy => by simp at hy,Nat.le_refl _,by decide,Nat.zero_le _⟩
 ·have spot:0 < len → a.spot = none:=by
   intro h0
   obtain ⟨cs0,hc0,_⟩:=hel 0 (by rw [hmm];split <;> omega)
   rw [zkC] at hc0
   obtain ⟨_,hcl0,hat0⟩:=World.cells?_some hc0
   have e9:=hat0 0 (by omega)
   rw [List.getElem?_eq_getElem (show 0 < cs0.length by omega)] at e9
   have:=World.cell?_spot e9
   simpa [Addr.add] using this
  have key:∀ i,i < len → ∃ y:Int × Int,I64 y.1 ∧ I64 y.2 ∧ ∃ b o,some a = some ⟨b,o,none⟩ ∧ W.cell? ⟨b,o + i * 2,none⟩ = some (.int .i64 y.1) ∧ W.cell? ⟨b,o + i * 2 + 1,none⟩ = some (.int .i64 y.2):=by
   intro i hi
   have him:i < m:=by rw [hmm];split <;> omega
   obtain ⟨cs',hc,ht⟩:=hel i him
   rw [zkC] at hc
   obtain ⟨_,hcl,hat⟩:=World.cells?_some hc
   obtain ⟨u,v,rfl,wu,wv⟩:=zAH ht
   have e0:=hat 0 (by omega)
   have e1:=hat 1 (by omega)
   simp only [List.getElem?_cons_zero,List.getElem?_cons_succ] at e0 e1
   have hsp:=spot (by omega)
   obtain ⟨b,o,s⟩:=a
   obtain rfl:s = none:=hsp
   rw [zmS,zmS] at e0 e1
   exact ⟨(u,v),wu,wv,b,o,rfl,e0,e1⟩
  obtain ⟨ps,hps,hq⟩:=zuZ len key
  refine ⟨some a,len,cap,ps,hcs,hps.symm,hq,hl,by unfold maxLen at hm;omega,?_⟩
  have h1:=zoK ((List.range len).map D)
  rw [List.length_map,List.length_range] at h1
  rw [hx]
  simp only [Rows.uptoBulk]
  omega
theorem zLz {fuel:Nat} {cs:List Value} {x:DataW H × List MemPlace} (h:DataW.trod enc Tryz.prog W base sp held fuel 42 cs = some x) (hb:Rows.uptoBulk x.1 ≤ 1048576) :
  ∃ (A:Option Addr) (n cp:Nat) (ls:List LineV),cs = [.slice A n cp] ∧ n = ls.length ∧ zex W A ls ∧ n ≤ cp ∧ cp ≤ 9223372036854775807:=by
 rcases open_slice Tryz.underlying42 h with ⟨hcs,hx⟩ | ⟨a,len,cap,m,q,D,Pl,hcs,_,hl,hm,hmm,hx,hel⟩
 ·exact ⟨none,0,0,[],hcs,rfl,fun k y hy => by simp at hy,Nat.le_refl _,by decide⟩
 ·have spot:0 < len → a.spot = none:=by
   intro h0
   obtain ⟨cs0,hc0,_⟩:=hel 0 (by rw [hmm];split <;> omega)
   rw [zKC] at hc0
   obtain ⟨_,hcl0,hat0⟩:=World.cells?_some hc0
   have e9:=hat0 0 (by omega)
   rw [List.getElem?_eq_getElem (show 0 < cs0.length by omega)] at e9
   have:=World.cell?_spot e9
   simpa [Addr.add] using this
  have key:∀ i,i < len → ∃ y:LineV,y.coef.length ≤ 1048576 ∧ I64 y.rhs.1 ∧ I64 y.rhs.2 ∧ ∃ b o C cc,some a = some ⟨b,o,none⟩ ∧ zcs W C y.coef ∧
    W.cell? ⟨b,o + i * 4,none⟩ = some (.slice C y.coef.length cc) ∧ W.cell? ⟨b,o + i * 4 + 1,none⟩ = some (.int .i64 y.kind) ∧ W.cell? ⟨b,o + i * 4 + 2,none⟩ = some (.int .i64 y.rhs.1) ∧ W.cell? ⟨b,o + i * 4 + 3,none⟩ = some (.int .i64 y.rhs.2):=by
   intro i hi
   have him:i < m:=by rw [hmm];split <;> omega
   obtain ⟨cs',hc,ht⟩:=hel i him
   rw [zKC] at hc
   obtain ⟨_,hcl,hat⟩:=World.cells?_some hc
   obtain ⟨ys,n',_,hxy,_,hyl,hg⟩:=DataW.trod_struct Tryz.underlying248 ht
   match cs',hcl with
   | [c0,c1,c2,c3],_ =>
    have g0:DataW.trod enc Tryz.prog W base sp held n' 22 ([c0,c1,c2,c3].take (Tryz.prog.cellsOf 22)) = ys[0]?:=hg 0 _ rfl
    have g1:DataW.trod enc Tryz.prog W base sp held n' 108 ([c1,c2,c3].take (Tryz.prog.cellsOf 108)) = ys[1]?:=hg 1 _ rfl
    have g2:DataW.trod enc Tryz.prog W base sp held n' 121 ([c2,c3].take (Tryz.prog.cellsOf 121)) = ys[2]?:=hg 2 _ rfl
    rw [zKr] at g0
    rw [zLd] at g1
    rw [zkC] at g2
    have hy:ys.length = 3:=hyl
    rw [List.getElem?_eq_getElem (show 0 < ys.length by omega)] at g0
    rw [List.getElem?_eq_getElem (show 1 < ys.length by omega)] at g1
    rw [List.getElem?_eq_getElem (show 2 < ys.length by omega)] at g2
    obtain ⟨C,nC,cC,ps,h0,hn,hf,_,_,hbk⟩:=zrv g0
    obtain ⟨kd,h1,_,_⟩:=DataW.trod_int Tryz.underlying108 g1
    obtain ⟨u,v,h2,wu,wv⟩:=zAH g2
    simp at h0 h1 h2
    obtain ⟨rfl,rfl⟩:=h2
    subst h0 h1
    have hD:D i = .agg (ys.map (·.1)):=(Prod.mk.inj hxy).1
    have b1:Rows.uptoBulk (D i) ≤ Rows.uptoBulk x.1:=by
     have:=zKR (d:=D i) (l:=(List.range len).map D) (List.mem_map.2 ⟨i,List.mem_range.2 hi,rfl⟩)
     rw [hx];simp only [Rows.uptoBulk];omega
    have b2:Rows.uptoBulk ys[0].1 ≤ Rows.uptoBulk (D i):=by
     have:=zKR (d:=ys[0].1) (l:=ys.map (·.1)) (List.mem_map.2 ⟨ys[0],List.getElem_mem _,rfl⟩)
     rw [hD];simp only [Rows.uptoBulk];omega
    have e0:=hat 0 (by omega)
    have e1:=hat 1 (by omega)
    have e2:=hat 2 (by omega)
    have e3:=hat 3 (by omega)
    simp only [List.getElem?_cons_zero,List.getElem?_cons_succ] at e0 e1 e2 e3
    have hsp:=spot (by omega)
    obtain ⟨b,o,s⟩:=a
    obtain rfl:s = none:=hsp
    rw [zmS,zmS] at e0 e1 e2 e3
    subst hn
    exact ⟨⟨ps,kd,(u,v)⟩,by show ps.length ≤ 1048576;omega,wu,wv,b,o,C,cC,rfl,hf,e0,e1,e2,e3⟩
  obtain ⟨ls,hls,hq⟩:=zuZ len key
  exact ⟨some a,len,cap,ls,hcs,hls.symm,hq,hl,by unfold maxLen at hm;omega⟩
end
end Go.Proofs.YtdbgbaiekpbaoaaGreatDoor
namespace Go.Proofs.YtdbgbaiekpbaoaaGreatDoor
open Go.ChangeShapes Go.WideShapes Go.ChangeAt Go.RowKit Go.Deep
set_option maxRecDepth 100000
theorem et:Tryz.prog.globalNamed "errors.errorType" = some 0:=by kernel_rfl
theorem rt:(Tryz.prog.cutTypes.find? (·.1 == "internal/reflectlite.rtype")).map (·.2) = some 211:=by kernel_rfl
theorem size:Tryz.prog.types.size = 318:=by kernel_rfl
theorem zDL:((List.range 318).filter fun t => Tryz.prog.rowNamed t [101,114,114,111,114]) = [55]:=by kernel_rfl
theorem zlF {W:World} (h:laidMetH Tryz.prog Rows.dualBudgetsUptoRow.laid W):W.cell? ⟨0,0,none⟩ = some Err.HandleV:=by
 have h':laidMet Tryz.prog [] W ∧ handlesMet Tryz.prog Rows.dualBudgetsUptoRow.laid W:=h
 obtain ⟨name,u,ty,e1,e2,e3,e4,e5⟩:=h'.2 _ (List.mem_singleton.2 rfl)
 have en:name = [101,114,114,111,114]:=(Option.some.inj e1).symm
 subst en
 obtain rfl:=Option.some.inj (rt.symm.trans e2)
 have hm:ty ∈ (List.range 318).filter fun t => Tryz.prog.rowNamed t [101,114,114,111,114]:=List.mem_filter.2 ⟨List.mem_range.2 (by rw [← size];exact e3),e4⟩
 rw [zDL] at hm
 obtain rfl:=List.mem_singleton.1 hm
 have hh:typeHandle Tryz.prog 55 = .pointer (some ⟨1,55,none⟩):=by kernel_rfl
 rw [hh] at e5
 simpa using World.var?_cell et e5 0
noncomputable def laidWorld (os:Os):World :=
 let w0:=World.holding Tryz.prog os ⟨#[], #[],[]⟩
 { w0 with heap:=w0.heap.modify 0 fun
   | .cells _ t frozen => .cells #[Err.HandleV] t frozen
   | o => o }
theorem znG (os:Os) (args:Array Value):laidMetH Tryz.prog Rows.dualBudgetsUptoRow.laid ((laidWorld os).forCall (fun _ _ => 0) ⟨#[],args,[]⟩).memory :=
 laidMetH_of_parts (laidMet_nil _ _) (by kernel_rfl)
theorem zMj {H:Type} {enc:TypeId × Value → H} {W:World} {base:Nat} {sp:Nat → Bool} {held:Bool} {fuel:Nat} {cs:List Value} {x:DataW H × List MemPlace} (h:DataW.trod enc Tryz.prog W base sp held fuel 44 cs = some x) (hb:Rows.uptoBulk x.1 ≤ 1048576) :
  ∃ (A:Option Addr) (nA cA:Nat) (L:Option Addr) (nL cL:Nat) (qs:List (Int × Int)) (ls:List LineV),cs = [.slice A nA cA, .slice L nL cL] ∧ zcs W A qs ∧ zex W L ls ∧ nA = qs.length ∧ nL = ls.length ∧ nA ≤ cA ∧ nL ≤ cL ∧ cA ≤ 9223372036854775807 ∧ cL ≤ 9223372036854775807:=by
 obtain ⟨zs,n',_,hxy,hl,hyl,hg⟩:=DataW.trod_struct Tryz.underlying44 h
 rw [zLt] at hl
 match cs,hl with
 | [c0,c1],_ =>
  have g0:DataW.trod enc Tryz.prog W base sp held n' 22 ([c0,c1].take (Tryz.prog.cellsOf 22)) = zs[0]?:=hg 0 _ rfl
  have g1:DataW.trod enc Tryz.prog W base sp held n' 42 ([c1].take (Tryz.prog.cellsOf 42)) = zs[1]?:=hg 1 _ rfl
  rw [zKr] at g0
  rw [zK3] at g1
  have hzl:zs.length = 2:=hyl
  rw [List.getElem?_eq_getElem (show 0 < zs.length by omega)] at g0
  rw [List.getElem?_eq_getElem (show 1 < zs.length by omega)] at g1
  have hd:x.1 = .agg (zs.map (·.1)):=by rw [hxy]
  have hb1:Rows.uptoBulk zs[1].1 ≤ Rows.uptoBulk x.1:=by
   have:=zKR (d:=zs[1].1) (l:=zs.map (·.1)) (List.mem_map.2 ⟨zs[1],List.getElem_mem _,rfl⟩)
   rw [hd];simp only [Rows.uptoBulk];omega
  obtain ⟨A,nA,cA,qs,a0,hn,hf,hna,hca,_⟩:=zrv g0
  obtain ⟨L,nL,cL,ls,a1,hm,hls,hnl,hcl⟩:=zLz g1 (by omega)
  simp at a0 a1
  subst a0 a1
  exact ⟨A,nA,cA,L,nL,cL,qs,ls,rfl,hf,hls,hn,hm,hna,hnl,hca,hcl⟩
end Go.Proofs.YtdbgbaiekpbaoaaGreatDoor
namespace Go.Proofs.YtdbgbaiekpbaoaaGreatDoor
open Go.RowKit Am
open Lib (hid)
set_option maxHeartbeats 1000000
set_option maxRecDepth 100000
theorem zqg (w:World) (a b:Int):∀ (j:Nat) (x:Int),[a,b][j]? = some x → (w.alloc (.cells #[.int .i64 a, .int .i64 b] 3)).cell? ⟨w.heap.size,j,none⟩ = some (.int .i64 x):=by
 intro j x h
 match j,h with
 | 0,h => simp at h;subst h;exact zax rfl rfl
 | 1,h => simp at h;subst h;exact zax rfl rfl
 | j + 2,h => simp at h
theorem zyt {w:World} {b:Nat} (hb:w.heap.size = b) (x0 x1:Int):∀ (j:Nat) (x:Int),[x0,x1][j]? = some x → (w.alloc (.cells #[.int .i64 x0, .int .i64 x1] 3)).cell? ⟨b,j,none⟩ = some (.int .i64 x):=by
 subst hb;exact zqg w x0 x1
theorem zuW {w:World} {b:Nat} {xs:List Int} (h:∀ (j:Nat) (x:Int),xs[j]? = some x → w.cell? ⟨b,j,none⟩ = some (.int .i64 x)):∀ (j:Nat) (x:Int),xs[j]? = some x → w.drew.cell? ⟨b,j,none⟩ = some (.int .i64 x):=h
theorem zAV {w:World} {b:Nat} {xs:List Int} {o:Obj} (h:∀ (j:Nat) (x:Int),xs[j]? = some x → w.cell? ⟨b,j,none⟩ = some (.int .i64 x)):∀ (j:Nat) (x:Int),xs[j]? = some x → (w.alloc o).cell? ⟨b,j,none⟩ = some (.int .i64 x):=fun j x hx => cell_al (h j x hx)
theorem zoX {u:World} {b:Nat} (hb:u.heap.size = b) {r r':RR} {p p':PRow} (h:RowS u r p) (h':RowS u r' p'):RowsS (u.alloc (.cells #[r.c, .int .i64 r.k, .bool r.g,r.s,r.d,r'.c, .int .i64 r'.k, .bool r'.g,r'.s,r'.d] 110)) 0 (.slice (some ⟨b,0,none⟩) 2 2) [p,p']:=by
 subst hb
 have ho:=World.ownsRow_lit (e:=110) (size:=5) (base:=0) u #[r.c, .int .i64 r.k, .bool r.g,r.s,r.d,r'.c, .int .i64 r'.k, .bool r'.g,r'.s,r'.d] 2 (Nat.zero_le _) (by decide) rfl
 refine ⟨[r,r'],rfl,?_,ho⟩
 intro k r0 q0 h1 h2
 match k,h1,h2 with
 | 0,h1,h2 => simp at h1 h2;subst h1 h2;exact h.below (zae u _)
 | 1,h1,h2 => simp at h1 h2;subst h1 h2;exact h'.below (zae u _)
 | k + 2,h1,_ => simp at h1
end Go.Proofs.YtdbgbaiekpbaoaaGreatDoor
namespace Go.Proofs.YtdbgbaiekpbaoaaGreatDoor
open Go.RowKit Am
open Lib (hid)
attribute [local go_sem ↓] Go.wp_at_zero Go.wp_at_succ
set_option maxHeartbeats 4000000
set_option maxRecDepth 100000
theorem VecS.setT {w:World} {H:Nat} {v:Value} {qs:List Rat} (h:VecS w H v qs) {p:Addr} {t:TypeId} {cs:Array Value} (hg:w.heap[p.block]? = some (.cells cs t (0,0))) (h1:193 ≠ t) (h2:35 ≠ t) (u:Value):VecS (w.setCell p u) H v qs:=by
 obtain ⟨l,_,_,h3⟩:=h.row
 exact h.setCell (za6 h3 hg h2) hg h1 u
theorem RatS.setT {w:World} {g:Bool} {s d:Value} {q:Rat} (h:RatS w g s d q) {p:Addr} {t:TypeId} {cs:Array Value} (hg:w.heap[p.block]? = some (.cells cs t (0,0))) (h1:193 ≠ t) (u:Value):RatS (w.setCell p u) g s d q :=
 ⟨⟨h.num.abs.setCell hg h1 u,h.num.neg⟩,h.den.setCell hg h1 u⟩
theorem RowS.setT {w:World} {r:RR} {p:PRow} (h:RowS w r p) {a:Addr} {t:TypeId} {cs:Array Value} (hg:w.heap[a.block]? = some (.cells cs t (0,0))) (h1:193 ≠ t) (h2:35 ≠ t) (u:Value):RowS (w.setCell a u) r p :=
 ⟨h.coef.setT hg h1 h2 u,h.kind,h.rhs.setT hg h1 u⟩
theorem RowsL.setT {w:World} {H:Nat} {v:Value} {l:List RR} {ps:List PRow} (h:RowsL w H v l ps) {a:Addr} {t:TypeId} {cs:Array Value} (hg:w.heap[a.block]? = some (.cells cs t (0,0))) (h1:193 ≠ t) (h2:35 ≠ t) (h3:110 ≠ t) (u:Value):RowsL (w.setCell a u) H v l ps :=
 ⟨h.len,fun k r p e1 e2 => (h.each k r p e1 e2).setT hg h1 h2 u,zc9 h.own fun k hk => Below.heap_setCell w a u k (fun e => za6 h.own hg h3 (by rw [hk,e]))⟩
theorem zij.blk {w w':World} (h:zij w w') {b:Nat} {cs:Array Value} {t:TypeId} (hb:w.heap[b]? = some (.cells cs t (0,0))) (ht:110 ≠ t):w'.heap[b]? = some (.cells cs t (0,0)) :=
 (h b (Array.getElem?_eq_some_iff.1 hb).1 fun cs' e => by rw [hb] at e;injection e with e;injection e with _ e2;exact ht e2.symm).trans hb
theorem RowsL.base' {w:World} {H H':Nat} {v:Value} {l:List RR} {ps:List PRow} (h:RowsL w H v l ps) (hb:H' ≤ H):RowsL w H' v l ps:=⟨h.len,h.each,zbu h.own hb⟩
def zJI (ls:List LineV):List PRow:=ls.map zH6
theorem zKT {ls:List LineV} {k:Nat} {x:LineV} (h:ls[k]? = some x):zJI (ls.take (k + 1)) = zJI (ls.take k) ++ [zH6 x]:=by
 unfold zJI;rw [List.take_add_one,h];simp
theorem zK7 (ls:List LineV):(zJI ls).length = ls.length:=by simp [zJI]
def From (N:Nat) (l:List RR):Prop := ∀ (i:Nat) (ri:RR) (b:Nat),l[i]? = some ri → ri.c.ownBlock = some b → N ≤ b
theorem zLw (N:Nat):From N []:=fun i ri b h => by simp at h
theorem zKP {N:Nat} {l:List RR} {r:RR} (h:From N l) (hr:∀ b,r.c.ownBlock = some b → N ≤ b):From N (l ++ [r]):=by
 intro i ri b hi hb
 rcases Nat.lt_trichotomy i l.length with h1 | h1 | h1
 ·rw [List.getElem?_append_left h1] at hi;exact h i ri b hi hb
 ·subst h1;rw [List.getElem?_append_right (Nat.le_refl _)] at hi;simp at hi;subst hi;exact hr b hb
 ·rw [List.getElem?_eq_none (by simp;omega)] at hi;cases hi
def zGF (w:World) (cost:List Rat) (rows:List PRow) (e:Ending) (w':World):Prop := ∃ (C:Option Addr) (nC cC:Nat) (R:Option Addr) (nR cR:Nat) (l:List RR),e = .returned (.agg #[.slice C nC cC, .slice R nR cR]) ∧
  VecS w' w.heap.size (.slice C nC cC) cost ∧ RowsL w' w.heap.size (.slice R nR cR) l rows ∧ Apart (.slice C nC cC) l ∧ From w.heap.size l ∧ Below w.heap.size w w'
namespace Lw
theorem zMg (A:Option Addr) (nA cA:Nat) (L:Option Addr) (nL cL:Nat) (cs:List (Int × Int)) (ls:List LineV) (w:World) (hf:zcs w A cs) (hlines:zex w L ls) (hn:nA = cs.length) (hm:nL = ls.length) (hb:nA ≤ 1048576) (hb2:nL ≤ 1000) :
  Calls Tryz.prog 124 #[.agg #[.slice A nA cA, .slice L nL cL]] w (zGF w (frs cs) (zJI ls)):=by
 have HN:=hid hn
 have HM:=hid hm
 have HB:=hid hb
 have HB2:=hid hb2
 have hnb:nL ≤ 9223372036854775807:=by omega
 clear hn hm hb hb2
 obtain ⟨W,hW⟩:∃ W,((w.alloc (.cells #[.slice A nA cA, .slice L nL cL] 44)).alloc (.cells #[.slice none 0 0, .slice none 0 0] 47)) = W:=⟨_,rfl⟩
 have KB0:=hid (show W.heap[w.heap.size]? = some (.cells #[.slice A nA cA, .slice L nL cL] 44 (0,0)) by rw [← hW];exact zak (zam (by simp)))
 have KB1:=hid (show W.heap[w.heap.size + 1]? = some (.cells #[.slice none 0 0, .slice none 0 0] 47 (0,0)) by rw [← hW];exact zam (by simp))
 have BB:=hid (show Below w.heap.size w W by rw [← hW];exact (zae w _).alloc (by simp) _)
 have HZ:=hid (show w.heap.size + 2 ≤ W.heap.size by rw [← hW];simp)
 have HF:=hid (show zcs W A cs by rw [← hW];exact ((hf).alloc _).alloc _)
 have HL:=hid (show zex W L ls by rw [← hW];exact ((hlines).alloc _).alloc _)
 obtain ⟨zaK,_,zaL,zaA⟩:=bc2 KB0.out
 clear hf hlines
 go_enter Tryz.func124,Tryz.ntmps124
 go_wp2_with fail
 clear hW
 with_reducible refine (make A nA cA cs _ HN.out HF.out HB.out).mono ?_
 rintro e w1 ⟨C,nC,cC,rfl,hv,hb⟩
 have zaq:=hid (show (w1.alloc (.cells #[.slice C nC cC, .slice none 0 0] 47)).heap[w.heap.size]? = some (.cells #[.slice A nA cA, .slice L nL cL] 44 (0,0)) from zak (zad hb KB0.out))
 have HC:=hid (show VecS (w1.alloc (.cells #[.slice C nC cC, .slice none 0 0] 47)) W.heap.size (.slice C nC cC) (frs cs) from (hv).alloc _)
 have zcu:=hid (show (w1.alloc (.cells #[.slice C nC cC, .slice none 0 0] 47)).heap[w1.heap.size]? = some (.cells #[.slice C nC cC, .slice none 0 0] 47 (0,0)) from zam (by simp))
 obtain ⟨_,_,zaJ,zau⟩:=bc2 zaq.out
 obtain ⟨_,_,zdU,_⟩:=bc2 zcu.out
 have HZ1:=hid (show W.heap.size ≤ w1.heap.size from hb.size)
 have HBW:=hid hb
 clear hv hb
 go_wp2
 go_loopw [4] (fun i wr => ∃ (k:Nat) (R:Option Addr) (cR:Nat) (l:List RR),i = .int .i64 k ∧ k ≤ nL ∧ wr.heap[w1.heap.size]? = some (.cells #[.slice C nC cC, .slice R k cR] 47 (0,0)) ∧ RowsL wr W.heap.size (.slice R k cR) l (zJI (ls.take k)) ∧ VecS wr W.heap.size (.slice C nC cC) (frs cs) ∧ Apart (.slice C nC cC) l ∧ From W.heap.size l ∧ Below W.heap.size W wr)
  (fun i _ => nL - (intOf i).toNat)
 case atStart => exact ⟨0,none,0,[],rfl,Nat.zero_le _,zal _ _ _,RowsL.nil _ _,HC.out,zLa _,zLw _,HBW.out.alloc HZ1.out _⟩
 case round =>
  obtain ⟨k,R,cR,l,rfl,hk,hbox,hL,hV,hA,hFr,hB⟩:=hrel
  have HA:=hid hA
  have HFR0:=hid hFr
  clear hA hFr
  by_cases hlt:k < nL
  ·obtain ⟨x,hx⟩:∃ x,ls[k]? = some x:=⟨ls[k]'(by rw [← HM.out];exact hlt),List.getElem?_eq_getElem _⟩
   obtain ⟨xc,xk,xp,xd⟩:=x
   obtain ⟨hxl,hx1,hx2,b,o,Q0,q0,rfl,hfr,k0,k1,k2,k3⟩:=HL.out.below hB k _ hx
   simp only at hxl hx1 hx2 hfr k0 k1 k2 k3
   have zaD:=hid (zad hB KB0.out)
   have zbb:=hid (zad hB KB1.out)
   have zMT:=hid (HF.out.below hB)
   have zJR:=hid (HL.out.below hB)
   have HFR:=hid (show zcs wr Q0 xc from hfr)
   have HRL:=hid (show RowsL wr W.heap.size (.slice R k cR) l (zJI (ls.take k)) from hL)
   have HC:=hid (show VecS wr W.heap.size (.slice C nC cC) (frs cs) from hV)
   have HW:=hid (show Bel W wr from Bel.mk hB)
   have zbj:=hid (BB.out.trans ((hB).mono BB.out.size))
   obtain ⟨zaU,_,zaV,_⟩:=bc2 zaD.out
   obtain ⟨zbi,zaX,zb2,_,zbp,za3,zcg,_⟩:=bf2 zbb.out
   have zcX:wr.cell? ⟨b,o + k * 4,none⟩ = some (.slice Q0 xc.length q0):=k0
   have x0_2d:=zaa zcX
   have zdq:wr.cell? ⟨b,o + k * 4 + 1,none⟩ = some (.int .i64 xk):=k1
   have x1_2d:=zaa zdq
   have zej:wr.cell? ⟨b,o + k * 4 + 2,none⟩ = some (.int .i64 xp):=k2
   have x2_2d:=zaa zej
   have zfa:wr.cell? ⟨b,o + k * 4 + 3,none⟩ = some (.int .i64 xd):=k3
   have x3_2d:=zaa zfa
   have KBO:=hid hbox
   obtain ⟨zaU,_,zaV,_⟩:=bc2 zaD.out
   obtain ⟨zbi,zaX,zb2,_,zbp,za3,zcg,_⟩:=bf2 zbb.out
   obtain ⟨ze6,_,_,_,ze7,_⟩:=bf2 KBO.out
   have zcX:=k0
   have x0_2d:=zaa zcX
   have zdq:=k1
   have x1_2d:=zaa zdq
   have zej:=k2
   have x2_2d:=zaa zej
   have zfa:=k3
   have x3_2d:=zaa zfa
   have HXL:=hid hxl
   have HX1:=hid hx1
   have HX2:=hid hx2
   have HGET:=hid hx
   have HBL:=hid (show b < W.heap.size from by obtain ⟨_,_,_,b',o',C',cc',e,_,e2,_⟩:=HL.out k _ hx;injection e with e;injection e with e3;rw [← e3] at e2;exact zMD e2)
   clear hB hbox hL hV hx hfr k0 k1 k2 k3 hxl hx1 hx2
   have hi1:(0:Int) ≤ (k:Int):=Int.natCast_nonneg _
   have hi2:(k:Int) < (nL:Int):=by omega
   have hz0:=HZ.out
   have hbl:=HBL.out
   go_wp2_with fail
   have HLEN:=hid (show (zJI (ls.take k)).length = k by rw [zK7,List.length_take, ← HM.out];omega)
   refine za2 (S:=fun w' => w'.cell? ⟨w.heap.size,0,none⟩ = some (.slice A nA cA) ∧ w'.cell? ⟨w.heap.size,1,none⟩ = some (.slice (some ⟨b,o,none⟩) nL cL) ∧ w'.cell? ⟨w1.heap.size,0,none⟩ = some (.slice C nC cC) ∧ w'.cell? ⟨w1.heap.size,1,none⟩ = some (.slice R k cR) ∧ w'.cell? ⟨b,o + k * 4,none⟩ = some (.slice Q0 xc.length q0) ∧ w'.cell? ⟨b,o + k * 4 + 1,none⟩ = some (.int .i64 xk) ∧ w'.cell? ⟨b,o + k * 4 + 2,none⟩ = some (.int .i64 xp) ∧ w'.cell? ⟨b,o + k * 4 + 3,none⟩ = some (.int .i64 xd)) 26 (h:=fun hHeld => ?_)
   refine zaw [0,1,2,3,4,5,6,7,9,10,11,12,13,14,15,16,17,18,19,20] ?_
   repeat refine tkE (hS:=hHeld) (h:=?_)
   refine zao ?_
   refine zaN 8 (h:=fun K hK => ?_)
   go_simp
   (go_at_call 10;(with_reducible refine (make Q0 xc.length q0 xc _ rfl HFR.out.drew HXL.out).mono ?_);rintro e u1 ⟨Q,nq,cq,rfl,hv,hb⟩;have zbn:=hid (zad hb zaD.out);have zoc:=hid (zad hb KBO.out);have zMA:=hid (HRL.out.drew.below hb);have zEw:=hid (HC.out.drew.below hb);have zrZ:=hid (HW.out.drew.below hb);have HQ:=hid (show VecS u1 wr.heap.size (.slice Q nq cq) (frs xc) from hv);obtain ⟨zdg,_,zdh,_⟩:=bc2 zbn.out;obtain ⟨zrd,_,_,_,zre,_⟩:=bf2 zoc.out;have zdO:=zab hb x0_2d;have zfd:=zab hb x1_2d;have zgl:=zab hb x2_2d;have zg9:=zab hb x3_2d;clear hv hb)
   (try go_wp2_with fail)
   refine hK.out _ _ kp fun hHeld => ?_
   clear hK K
   try simp only [Act.put,pu1,pu2,pu3,pu4,pu5,pu6]
   refine zaN 21 (h:=fun K hK => ?_)
   go_simp
   (go_at_call 50;(with_reducible refine (one xp xd HX1.out HX2.out _).mono ?_);rintro e u2 ⟨g5,A5,m5,c5,D5,md5,cd5,rfl,hv,hb⟩;have zbo:=hid (zad hb zbn.out);have zgh:=hid (zad hb zoc.out);have zGe:=hid (zMA.out.below hb);have zI0:=hid (zEw.out.below hb);have zhh:=hid (zrZ.out.below hb);have zI3:=hid (HQ.out.below hb);have HRQ:=hid (show RatS u2 g5 (.slice A5 m5 c5) (.slice D5 md5 cd5) (fr xp xd) from hv);obtain ⟨zcj,_,zck,_⟩:=bc2 zbo.out;obtain ⟨zhu,_,_,_,zhv,_⟩:=bf2 zgh.out;have zd6:=zab hb zdO;have zfT:=zab hb zfd;have zgs:=zab hb zgl;have zha:=zab hb zg9;have hzu:W.heap.size ≤ u2.heap.size:=zhh.out.b.size;clear hv hb)
   (try go_wp2_with fail)
   refine hK.out _ _ kp fun hHeld => ?_
   clear hK K
   try simp only [Act.put,pu1,pu2,pu3,pu4,pu5,pu6]
   refine zaw [22] ?_
   repeat refine tkE (hS:=hHeld) (h:=?_)
   refine zao ?_
   refine zaN 23 (h:=fun K hK => ?_)
   go_simp
   refine hK.out _ _ kp fun hHeld => ?_
   clear hK K
   try simp only [Act.put,pu1,pu2,pu3,pu4,pu5,pu6]
   refine zaN 24 (h:=fun K hK => ?_)
   ((refine zKn (by rfl) _ _ (by rfl) (by rfl) (zGe.out.alloc _) (by rfl) (zal _ _ _) (p:=zH6 ⟨xc,xk,(xp,xd)⟩) ⟨(zI3.out.alloc _).base (Nat.zero_le _),rfl,HRQ.out.alloc _⟩ HLEN.out (by have:=HB2.out;omega) (by simp;omega) ?_);intro R3 c3 w3 hL3 hk3 hb3;have HL3:=hid hL3;have KB3:=hid (hk3.blk (zak zgh.out) (by decide));have p0:w3.cell? ⟨w1.heap.size,0,none⟩ = some (.slice C nC cC):=zac KB3.out 0;have p1:w3.cell? ⟨w1.heap.size,1,none⟩ = some (.slice R k cR):=zac KB3.out 1;have pf1:=zag KB3.out 1;have HC3:=hid ((zI0.out.alloc _).keepR hk3);have HW3:=hid ((zhh.out.alloc _).b.trans hb3);have s0:=zKh hb3 (show w.heap.size < W.heap.size by omega) (cell_al (ob := .cells #[.slice Q nq cq, .int .i64 xk, .bool g5, .slice A5 m5 c5, .slice D5 md5 cd5] 110) zcj);have s1:=zKh hb3 (show w.heap.size < W.heap.size by omega) (cell_al (ob := .cells #[.slice Q nq cq, .int .i64 xk, .bool g5, .slice A5 m5 c5, .slice D5 md5 cd5] 110) zck);have s2:=zKh hb3 (show b < W.heap.size by omega) (cell_al (ob := .cells #[.slice Q nq cq, .int .i64 xk, .bool g5, .slice A5 m5 c5, .slice D5 md5 cd5] 110) zd6);have s3:=zKh hb3 (show b < W.heap.size by omega) (cell_al (ob := .cells #[.slice Q nq cq, .int .i64 xk, .bool g5, .slice A5 m5 c5, .slice D5 md5 cd5] 110) zfT);have s4:=zKh hb3 (show b < W.heap.size by omega) (cell_al (ob := .cells #[.slice Q nq cq, .int .i64 xk, .bool g5, .slice A5 m5 c5, .slice D5 md5 cd5] 110) zgs);have s5:=zKh hb3 (show b < W.heap.size by omega) (cell_al (ob := .cells #[.slice Q nq cq, .int .i64 xk, .bool g5, .slice A5 m5 c5, .slice D5 md5 cd5] 110) zha);clear hL3 hk3 hb3)
   refine hK.out _ _ kp fun hHeld => ?_
   clear hK K
   try simp only [Act.put,pu1,pu2,pu3,pu4,pu5,pu6]
   refine zaw [25] ?_
   repeat refine tkE (hS:=hHeld) (h:=?_)
   refine zao ?_
   refine zba (h:=fun K hK => ?_)
   go_simp
   refine hK.out _ _ ?_
   clear hK K
   try simp only [Act.put,pu1,pu2,pu3,pu4,pu5,pu6]
   refine za1 (h:=?_)
   all_goals
    go_wp2
    go_roundw
    case rel => exact ⟨k + 1,R3,c3,_,by go_num,by omega,zar _ KB3.out,by rw [zKT HGET.out];exact HL3.out.setT KB3.out (by decide) (by decide) (by decide) _,HC3.out.setT KB3.out (by decide) (by decide) _,zKz HA.out HRL.out.coefLt (fun b hb => (HC.out.lt hb).2) (fun b hb => (HQ.out.lt hb).1),zKP HFR0.out (fun b hb => Nat.le_trans (HW.out.b.size) (HQ.out.lt hb).1),Below.setCell HW3.out (by show W.heap.size ≤ w1.heap.size;exact HZ1.out) _⟩
    case measure => simp [intOf];omega
  ·obtain rfl:nL = k:=by omega
   have zaD:=hid (zad hB KB0.out)
   have zbb:=hid (zad hB KB1.out)
   have zMT:=hid (HF.out.below hB)
   have zJR:=hid (HL.out.below hB)
   have HRL:=hid (show RowsL wr W.heap.size (.slice R nL cR) l (zJI (ls.take nL)) from hL)
   have HC:=hid (show VecS wr W.heap.size (.slice C nC cC) (frs cs) from hV)
   have zbj:=hid (BB.out.trans ((hB).mono BB.out.size))
   obtain ⟨zaU,_,zaV,_⟩:=bc2 zaD.out
   obtain ⟨zbi,zaX,zb2,_,zbp,za3,zcg,_⟩:=bf2 zbb.out
   have KBO:=hid hbox
   obtain ⟨zaU,_,zaV,_⟩:=bc2 zaD.out
   obtain ⟨zbi,zaX,zb2,_,zbp,za3,zcg,_⟩:=bf2 zbb.out
   obtain ⟨ze6,_,ze7,_⟩:=bc2 KBO.out
   clear hbox hL hV hB
   have HF:=hid (show zJI (ls.take nL) = zJI ls by rw [HM.out,List.take_length])
   go_wp2
   refine bodyPost_ret (v := .agg #[.slice C nC cC, .slice R nL cR]) (by simp [results,Tryz.results124,go_sem,zbi,zaX,zbp,za3]) rfl ?_
   have h1:=HRL.out
   rw [HF.out] at h1
   have h2:=(h1.base' (show w.heap.size ≤ W.heap.size by have:=HZ.out;omega)).setT (a:=⟨w.heap.size + 1,0,none⟩) zbb.out (by decide) (by decide) (by decide) (.slice C nC cC)
   have h3:=h2.setT (a:=⟨w.heap.size + 1,1,none⟩) (zar _ zbb.out) (by decide) (by decide) (by decide) (.slice R nL cR)
   have v2:=(HC.out.base (show w.heap.size ≤ W.heap.size by have:=HZ.out;omega)).setT (p:=⟨w.heap.size + 1,0,none⟩) zbb.out (by decide) (by decide) (.slice C nC cC)
   have v3:=v2.setT (p:=⟨w.heap.size + 1,1,none⟩) (zar _ zbb.out) (by decide) (by decide) (.slice R nL cR)
   exact ⟨_,_,_,_,_,_,l,rfl,v3,h3,HA.out,fun i ri b hi hb => Nat.le_trans (show w.heap.size ≤ W.heap.size by have:=HZ.out;omega) (HFR0.out i ri b hi hb),Below.setCell (Below.setCell (zbj.out) (p:=⟨w.heap.size + 1,0,none⟩) (by show w.heap.size ≤ w.heap.size + 1;omega) _) (p:=⟨w.heap.size + 1,1,none⟩) (by show w.heap.size ≤ w.heap.size + 1;omega) _⟩
end Lw
end Go.Proofs.YtdbgbaiekpbaoaaGreatDoor
namespace Go.Proofs.YtdbgbaiekpbaoaaGreatDoor
open Go.RowKit Am
open Lib (hid)
attribute [local go_sem ↓] Go.wp_at_zero Go.wp_at_succ
set_option maxHeartbeats 2000000
set_option maxRecDepth 100000
theorem zsy (n:Nat):(madeCells (Value.bool false).cells (n * 1)).toList = tcells (List.replicate n false):=by
 apply List.ext_getElem?
 intro j
 rw [show (Value.bool false).cells = #[.bool false] from rfl,Nat.mul_one]
 by_cases hj:j < n
 ·simp [madeCells,tcells,hj,Nat.mod_one]
 ·simp [madeCells,tcells,hj]
theorem zf8 {w:World} {ops:Array Oper} {rest:List Oper} {o:Oper} {a:Act} {Q:Exit → Act → World → Prop}
  (hg:o.guard = none) (l c:Operand) (hop:o.op = Op.makeSlice 23 l c) (n:Nat) (L:Int) (hl:a.eval l = .int .i64 L) (hc:a.eval c = .int .i64 L) (hL:L = (n:Int)) (hb:n ≤ 1048576) (H:Nat) (hH:w.heap.size = H)
  (hK:∀ w1,BoolsS w1 w.heap.size (.slice (some ⟨H,0,none⟩) n n) (List.replicate n false) → Below w.heap.size w w1 → wpList Tryz.prog ops Q rest (a.put o.dst (.slice (some ⟨H,0,none⟩) n n)) w1):wpList Tryz.prog ops Q (o :: rest) a w:=by
 obtain ⟨i0,hi,hz0,hz1,hz2⟩:=info_parts zuV
 subst hH
 subst hL
 refine wpList_make_full w hg l c 23 hop w.heap.size 4 i0 _ 1 Tryz.underlying23 hi hz0 hz1 .i64 .i64 n n n hl hc rfl rfl (by rw [hz2];omega) (by unfold maxLen;omega) (Nat.le_refl _) ?_
 intro w1 hown hgrow
 rw [zsy] at hown
 exact hK w1 ⟨by rw [List.length_replicate];exact hown⟩ ((Below.refl _ _).grown hgrow (Nat.le_refl _) (fun k hk => by cases hk))
def zsn (n k:Nat):List Bool:=List.replicate k true ++ List.replicate (n - k) false
theorem zhU (n:Nat):zsn n 0 = List.replicate n false:=by simp [zsn]
theorem zjB (n:Nat):zsn n n = List.replicate n true:=by simp [zsn]
theorem zoQ {n k:Nat} (h:k < n):(zsn n k).set k true = zsn n (k + 1):=by
 unfold zsn
 rw [List.set_append,if_neg (by rw [List.length_replicate];omega),List.length_replicate,Nat.sub_self,show n - k = (n - (k + 1)) + 1 by omega,List.replicate_succ,List.set_cons_zero,List.replicate_succ' (n:=k),List.append_assoc];rfl
theorem zrF {n k:Nat} (h:k < n):(zsn n k)[k]? = some false:=by
 unfold zsn
 rw [List.getElem?_append_right (by rw [List.length_replicate];omega),List.length_replicate,Nat.sub_self,List.getElem?_replicate,if_pos (by omega)]
namespace Du
theorem zzg (n:Nat) (hn:n ≤ 64) (hp:0 < n) (w:World):Calls Tryz.prog 16 #[.int .i64 (n:Int)] w fun e w' => ∃ A,e = .returned (.slice A n n) ∧ BoolsS w' w.heap.size (.slice A n n) (List.replicate n true) ∧ Below w.heap.size w w':=by
 have hmin:min (n:Int) 64 = (n:Int):=by omega
 have hmax:max (0:Int) (n:Int) = (n:Int):=by omega
 have hm1:¬ ((64:Int) < (n:Int)):=by omega
 go_enter Tryz.func16,Tryz.ntmps16
 go_wp2_with (at_make;go_must (refine zf8 rfl _ _ rfl n _ rfl rfl rfl (by omega) w.heap.size rfl ?_;intro w1 ho hb1;have HO:=hid ho;have HB1:=hid hb1;clear ho hb1))
 go_loopw [11] (fun i wr => ∃ k:Nat,i = .int .i64 k ∧ k ≤ n ∧ BoolsS wr w.heap.size (.slice (some ⟨w.heap.size,0,none⟩) n n) (zsn n k) ∧ Below w.heap.size w wr)
  (fun i _ => n - (intOf i).toNat)
 case atStart => exact ⟨0,rfl,Nat.zero_le _,by rw [zhU];exact HO.out,HB1.out⟩
 case round =>
  obtain ⟨k,rfl,hk,hv,hB⟩:=hrel
  have HV:=hid hv
  have HB:=hid hB
  clear hB
  by_cases hlt:k < n
  ·have y0:=hv.at_ (zrF hlt)
   have yf:=hv.fro k
   have hi1:(0:Int) ≤ (k:Int):=Int.natCast_nonneg _
   have hi2:(k:Int) < (n:Int):=by omega
   clear hv
   go_wp2
   go_roundw
   case rel => exact ⟨k + 1,by go_num,by omega,by rw [← zoQ hlt];exact HV.out.store k true,HB.out.setCell (p:=⟨w.heap.size,k,none⟩) (Nat.le_refl _) _⟩
   case measure => simp [intOf];omega
  ·obtain rfl:n = k:=by omega
   clear hv
   go_wp2
   go_ret
   exact ⟨_,rfl,by have h:=HV.out;rw [zjB] at h;exact h,HB.out⟩
theorem zwa (w:World):Calls Tryz.prog 16 #[.int .i64 0] w fun e w' => ∃ A,e = .returned (.slice A 0 0) ∧ BoolsS w' w.heap.size (.slice A 0 0) [] ∧ Below w.heap.size w w':=by

 go_enter Tryz.func16,Tryz.ntmps16
 go_wp2_with (at_make;go_must (refine zf8 rfl _ _ rfl 0 _ rfl rfl rfl (by omega) w.heap.size rfl ?_;intro w1 ho hb1;have HO:=hid ho;have HB1:=hid hb1;clear ho hb1))
 go_loopw [11] (fun i wr => ∃ k:Nat,i = .int .i64 k ∧ k ≤ 0 ∧ BoolsS wr w.heap.size (.slice (some ⟨w.heap.size,0,none⟩) 0 0) (zsn 0 k) ∧ Below w.heap.size w wr)
  (fun i _ => 0 - (intOf i).toNat)
 case atStart => exact ⟨0,rfl,Nat.zero_le _,by rw [zhU];exact HO.out,HB1.out⟩
 case round =>
  obtain ⟨k,rfl,hk,hv,hB⟩:=hrel
  have HV:=hid hv
  have HB:=hid hB
  clear hB
  by_cases hlt:k < 0
  ·exact absurd hlt (Nat.not_lt_zero _)
  ·obtain rfl:k = 0:=by omega
   clear hv
   go_wp2
   go_ret
   exact ⟨_,rfl,by have h:=HV.out;rw [zjB] at h;exact h,HB.out⟩
theorem all (n:Nat) (hn:n ≤ 64) (w:World):Calls Tryz.prog 16 #[.int .i64 (n:Int)] w fun e w' => ∃ A,e = .returned (.slice A n n) ∧ BoolsS w' w.heap.size (.slice A n n) (List.replicate n true) ∧ Below w.heap.size w w':=by
 rcases Nat.eq_zero_or_pos n with rfl | hp
 ·exact zwa w
 ·exact zzg n hn hp w
end Du
end Go.Proofs.YtdbgbaiekpbaoaaGreatDoor
namespace Go.Proofs.YtdbgbaiekpbaoaaGreatDoor
open Go.RowKit Am
open Lib (hid)
set_option maxHeartbeats 1000000
set_option maxRecDepth 100000
theorem znO {w:World} {H N:Nat} {e:TypeId} {size:Nat} {v:Value} {n:Nat} {xs:List Value} (h:w.ownsRow H e size v n xs) (hN:∀ b,v.ownBlock = some b → N ≤ b):w.ownsRow N e size v n xs:=by
 refine ⟨h.1,?_⟩
 rcases h.2 with h2 | ⟨g,cap,cur,hv,hg,r⟩
 ·exact .inl h2
 ·exact .inr ⟨g,cap,cur,hv,hN g (by rw [hv];rfl),r⟩
theorem VecS.raise {w:World} {H N:Nat} {v:Value} {qs:List Rat} (h:VecS w H v qs) (hN:∀ b,v.ownBlock = some b → N ≤ b):VecS w N v qs:=by
 obtain ⟨l,h1,h2,h3⟩:=h.row;exact ⟨l,h1,h2,znO h3 hN⟩
theorem zff.blk {w w':World} (h:zff w w') {b:Nat} {cs:Array Value} {t:TypeId} (hb:w.heap[b]? = some (.cells cs t (0,0))) (ht:35 ≠ t):w'.heap[b]? = some (.cells cs t (0,0)) :=
 (h b (Array.getElem?_eq_some_iff.1 hb).1 fun cs' e => by rw [hb] at e;injection e with e;injection e with _ e2;exact ht e2.symm).trans hb
def zei (l:List RR) (k:Nat) (c:Value):List RR:=l.modify k fun r => { r with c:=c }
theorem zib {l:List RR} {k:Nat} {c:Value} {i:Nat} {r:RR} (h:(zei l k c)[i]? = some r):∃ r0,l[i]? = some r0 ∧ ((i = k ∧ r.c = c) ∨ (i ≠ k ∧ r.c = r0.c)):=by
 unfold zei at h
 rw [List.getElem?_modify] at h
 cases e:l[i]? with
 | none => rw [e] at h;simp at h
 | some r0 =>
  rw [e] at h
  simp at h
  refine ⟨r0,rfl,?_⟩
  by_cases hk:k = i
  ·left;rw [if_pos hk] at h;subst h;exact ⟨hk.symm,rfl⟩
  ·right;rw [if_neg hk] at h;subst h;exact ⟨fun e => hk e.symm,rfl⟩
theorem zsz {l:List RR} {k:Nat} {r:RR} (h:l[k]? = some r):zei l k r.c = l:=by
 unfold zei
 apply List.ext_getElem?
 intro i
 rw [List.getElem?_modify]
 by_cases hk:k = i
 ·subst hk;rw [h];simp
 ·simp [hk]
structure RSt (w0 wz:World) (pb:Nat) (C:Value) (cost:List Rat) (R:Value) (l:List RR) (ps:List PRow) (k:Nat) (cv:Value) (qs:List Rat):Prop where
  res:wz.heap[w0.heap.size + 1]? = some (.cells #[.slice none 0 0, .slice none 0 0] 47 (0,0))
  pbx:wz.heap[pb]? = some (.cells #[C,R] 47 (0,0))
  cost:VecS wz w0.heap.size C cost
  len:l.length = ps.length
  each:∀ (i:Nat) (r:RR) (p:PRow),l[i]? = some r → ps[i]? = some p → (i ≠ k → VecS wz 0 r.c p.coef) ∧ r.k = p.kind ∧ RatS wz r.g r.s r.d p.rhs
  own:wz.ownsRow w0.heap.size 110 5 R ps.length (zcW l)
  cur:VecS wz w0.heap.size cv qs
  ap:Apart C (zei l k cv)
  fr:From w0.heap.size l
  bel:Below w0.heap.size w0 wz
namespace RSt
variable {w0 wz w':World} {pb:Nat} {C:Value} {cost:List Rat} {R:Value} {l:List RR} {ps:List PRow} {k:Nat} {cv:Value} {qs:List Rat}
theorem below (h:RSt w0 wz pb C cost R l ps k cv qs) (hb:Below wz.heap.size wz w'):RSt w0 w' pb C cost R l ps k cv qs :=
  ⟨zad hb h.res,zad hb h.pbx,h.cost.below hb,h.len,fun i r p a b => ⟨fun e => ((h.each i r p a b).1 e).below hb,(h.each i r p a b).2.1,(h.each i r p a b).2.2.below hb⟩,
   zc9 h.own fun k hk => hb.block k (h.own.lt k hk).2,h.cur.below hb,h.ap,h.fr,h.bel.trans (hb.mono h.bel.size)⟩
theorem alloc (h:RSt w0 wz pb C cost R l ps k cv qs) (o:Obj):RSt w0 (wz.alloc o) pb C cost R l ps k cv qs:=h.below (zae wz o)
theorem drew (h:RSt w0 wz pb C cost R l ps k cv qs):RSt w0 wz.drew pb C cost R l ps k cv qs:=h.below (zap wz 1)
theorem append (h:RSt w0 wz pb C cost R l ps k cv qs) (hk:k < l.length) {cv':Value} {q:Rat} (hv:VecS w' w0.heap.size cv' (qs ++ [q])) (hr:zff wz w') (hg:wz.grownBy w' cv.ownBlock) (hc:cv'.ownBlock = cv.ownBlock ∨ ∃ b,cv'.ownBlock = some b ∧ wz.heap.size ≤ b) :
  RSt w0 w' pb C cost R l ps k cv' (qs ++ [q]):=by
 obtain ⟨rk,hrk⟩:∃ r,l[k]? = some r:=⟨l[k],List.getElem?_eq_getElem hk⟩
 have hwk:(zei l k cv)[k]? = some { rk with c:=cv }:=by unfold zei;rw [List.getElem?_modify,hrk];simp
 have zDE:∀ b,C.ownBlock = some b → w'.heap[b]? = wz.heap[b]?:=fun b hb => hg.block b (h.cost.lt hb).2 fun e => h.ap.2 k _ b hwk e.symm hb
 have keepI:∀ i r p,l[i]? = some r → ps[i]? = some p → i ≠ k → VecS w' 0 r.c p.coef:=by
  intro i r p h1 h2 hik
  have hv:=(h.each i r p h1 h2).1 hik
  refine hv.keepAll (fun b hb => hg.block b (hv.lt hb).2 fun e => ?_) fun _ _ _ _ x => x.keepT hr
  have hwi:(zei l k cv)[i]? = some r:=by unfold zei;rw [List.getElem?_modify,h1];simp;intro e;exact absurd e.symm hik
  exact hik (h.ap.1 i k r _ b hwi hwk hb e.symm)
 refine ⟨hr.blk h.res (by decide),hr.blk h.pbx (by decide),h.cost.keepAll zDE fun _ _ _ _ x => x.keepT hr,h.len,fun i r p h1 h2 => ⟨keepI i r p h1 h2,(h.each i r p h1 h2).2.1,(h.each i r p h1 h2).2.2.keepT hr⟩,?_,hv,?_,h.fr,?_⟩
 ·refine zc9 h.own fun b hb => ?_
  rcases h.own.2 with ⟨e,_⟩ | ⟨g,cap,cur,e,_,hh,_⟩
  ·rw [e] at hb;cases hb
  ·rw [e] at hb;injection hb with hb;subst hb
   exact (hr.blk hh (by decide)).trans hh.symm
 ·have hlt:∀ (i:Nat) (r:RR) (b:Nat),(zei l k cv)[i]? = some r → r.c.ownBlock = some b → b < wz.heap.size:=by
   intro i r b h1 h2
   obtain ⟨r0,h3,⟨rfl,h4⟩ | ⟨h4,h5⟩⟩:=zib h1
   ·rw [h4] at h2;exact (h.cur.lt h2).2
   ·obtain ⟨p,hp⟩:∃ p,ps[i]? = some p:=⟨ps[i]'(by rw [← h.len];exact (List.getElem?_eq_some_iff.1 h3).1),List.getElem?_eq_getElem _⟩
    rw [h5] at h2;exact (((h.each i r0 p h3 hp).1 h4).lt h2).2
  have look:∀ (i:Nat) (r:RR) (b:Nat),(zei l k cv')[i]? = some r → r.c.ownBlock = some b → (∃ r',(zei l k cv)[i]? = some r' ∧ r'.c.ownBlock = some b) ∨ (i = k ∧ wz.heap.size ≤ b):=by
   intro i r b h1 h2
   obtain ⟨r0,h3,⟨rfl,h4⟩ | ⟨h4,h5⟩⟩:=zib h1
   ·rw [h4] at h2
    rcases hc with hc | ⟨b',hc,hb'⟩
    ·exact .inl ⟨_,hwk,by rw [← hc];exact h2⟩
    ·rw [hc] at h2;injection h2 with h2;exact .inr ⟨rfl,by omega⟩
   ·exact .inl ⟨r0,by unfold zei;rw [List.getElem?_modify,h3];simp;intro e;exact absurd e.symm h4,by rw [← h5];exact h2⟩
  refine ⟨fun i j ri rj b hi hj bi bj => ?_,fun i ri b hi bi hcb => ?_⟩
  ·rcases look i ri b hi bi with ⟨r1,a1,a2⟩ | ⟨a1,a2⟩ <;> rcases look j rj b hj bj with ⟨r2,b1,b2⟩ | ⟨b1,b2⟩
   ·exact h.ap.1 i j r1 r2 b a1 b1 a2 b2
   ·have:=hlt i r1 b a1 a2;omega
   ·have:=hlt j r2 b b1 b2;omega
   ·omega
  ·rcases look i ri b hi bi with ⟨r1,a1,a2⟩ | ⟨a1,a2⟩
   ·exact h.ap.2 i r1 b a1 a2 hcb
   ·have:=(h.cost.lt hcb).2;omega
 ·exact h.bel.grown hg h.bel.size fun b hb => (h.cur.lt hb).1
end RSt
structure ROut (w0 w:World) (pb:Nat) (C:Value) (cost:List Rat) (R:Value) (l:List RR) (ps:List PRow):Prop where
  res:w.heap[w0.heap.size + 1]? = some (.cells #[.slice none 0 0, .slice none 0 0] 47 (0,0))
  pbx:w.heap[pb]? = some (.cells #[C,R] 47 (0,0))
  cost:VecS w w0.heap.size C cost
  rows:RowsL w w0.heap.size R l ps
  ap:Apart C l
  fr:From w0.heap.size l
  bel:Below w0.heap.size w0 w
theorem ROut.below {w0 w w':World} {pb:Nat} {C:Value} {cost:List Rat} {R:Value} {l:List RR} {ps:List PRow} (h:ROut w0 w pb C cost R l ps) (hb:Below w.heap.size w w'):ROut w0 w' pb C cost R l ps :=
 ⟨zad hb h.res,zad hb h.pbx,h.cost.below hb,h.rows.below hb,h.ap,h.fr,h.bel.trans (hb.mono h.bel.size)⟩
theorem ROut.drew {w0 w:World} {pb:Nat} {C:Value} {cost:List Rat} {R:Value} {l:List RR} {ps:List PRow} (h:ROut w0 w pb C cost R l ps):ROut w0 w.drew pb C cost R l ps:=h.below (zap w 1)
theorem RSt.start {w0 wz:World} {pb:Nat} {C:Value} {cost:List Rat} {R:Value} {l:List RR} {ps:List PRow} (h:ROut w0 wz pb C cost R l ps) {k:Nat} {r:RR} {p:PRow} (hr:l[k]? = some r) (hp:ps[k]? = some p):RSt w0 wz pb C cost R l ps k r.c p.coef :=
 ⟨h.res,h.pbx,h.cost,h.rows.len,fun i r p h1 h2 => ⟨fun _ => (h.rows.each i r p h1 h2).coef,(h.rows.each i r p h1 h2).kind,(h.rows.each i r p h1 h2).rhs⟩,h.rows.own,(h.rows.each k r p hr hp).coef.raise fun b hb => h.fr k r b hr hb,by rw [zsz hr];exact h.ap,h.fr,h.bel⟩
theorem zxs {w:World} {H n cap:Nat} {A:Option Addr} {e:TypeId} {size:Nat} {xs:List Value} (h:w.ownsRow H e size (.slice A n cap) n xs) (i:Nat) (hi:i ≤ n) :
  w.ownsRow H e size (.slice A i cap) i (xs.take (i * size)):=by
 have hl:i * size ≤ n * size:=Nat.mul_le_mul_right _ hi
 refine ⟨by rw [List.length_take,h.1];omega,?_⟩
 rcases h.2 with ⟨h',hn⟩ | ⟨g',cap',cur,h',hb,hg,hnc,hcm,hcs,htake⟩
 ·injection h' with e1 e2 e3
  subst e1 e2 e3
  obtain rfl:i = 0:=by omega
  exact .inl ⟨rfl,rfl⟩
 ·injection h' with e1 e2 e3
  subst e1 e3
  exact .inr ⟨g',cap,cur,rfl,hb,hg,by omega,hcm,hcs,by rw [← htake,List.take_take,Nat.min_eq_left hl]⟩
theorem zqu (l:List RV):∀ k,(rcells l).take (k * 3) = rcells (l.take k):=by
 induction l with
 | nil => intro k;simp [rcells]
 | cons a l ih =>
  intro k
  cases k with
  | zero => simp [rcells]
  | succ k => rw [show (k + 1) * 3 = k * 3 + 1 + 1 + 1 by omega,zcy];simp [zcy,ih]
theorem VecS.cut {w:World} {H n cap:Nat} {A:Option Addr} {qs:List Rat} (h:VecS w H (.slice A n cap) qs) (i:Nat) (hi:i ≤ n):VecS w H (.slice A i cap) (qs.take i):=by
 have hn:=h.len
 subst hn
 obtain ⟨l,h1,h2,h3⟩:=h.row
 refine ⟨l.take i,by simp [h1],fun k r q a b => ?_,?_⟩
 ·rw [List.getElem?_take] at a b
  split at a
  ·rw [if_pos ‹_›] at b;exact h2 k r q a b
  ·cases a
 ·have h4:=zxs h3 i hi
  rw [zqu] at h4
  rw [List.length_take,Nat.min_eq_left hi];exact h4
theorem zA4 {w:World} {H b n cap:Nat} {e:TypeId} {size:Nat} {xs:List Value} (h:w.ownsRow H e size (.slice (some ⟨b,0,none⟩) n cap) n xs):∃ cur,w.heap[b]? = some (.cells cur e (0,0)) ∧ H ≤ b:=by
 rcases h.2 with ⟨h',hn⟩ | ⟨g',cap',cur,h',hb,hg,hnc,hcm,hcs,htake⟩
 ·cases h'
 ·injection h' with e1;injection e1 with e1;injection e1 with e1;subst e1;exact ⟨cur,hg,hb⟩
theorem zq7 {w:World} {b b' o:Nat} {cs cs':Array Value} {t t':TypeId} (u:Value) (h:w.heap[b]? = some (.cells cs t (0,0))) (h':w.heap[b']? = some (.cells cs' t' (0,0))) (ht:t ≠ t'):(w.setCell ⟨b,o,none⟩ u).heap[b']? = some (.cells cs' t' (0,0)):=by
 refine (Below.heap_setCell w ⟨b,o,none⟩ u b' fun e => ?_).trans h'
 have e:b' = b:=e
 subst e
 rw [h] at h';injection h' with h';injection h' with _ e2;exact ht e2
theorem RSt.put {w0 wz:World} {pb:Nat} {C:Value} {cost:List Rat} {bR nR cR:Nat} {l:List RR} {ps:List PRow} {k:Nat} {A:Option Addr} {n c:Nat} {qs:List Rat} (h:RSt w0 wz pb C cost (.slice (some ⟨bR,0,none⟩) nR cR) l ps k (.slice A n c) qs) (hn:nR = ps.length) (nc:Nat) (hnc:nc ≤ n) :
  ROut w0 (wz.setCell ⟨bR,k * 5,none⟩ (.slice A nc c)) pb C cost (.slice (some ⟨bR,0,none⟩) nR cR) (zei l k (.slice A nc c)) (ps.modify k fun p => { p with coef:=qs.take nc }):=by
 subst hn
 obtain ⟨cur,hg,hH⟩:=zA4 h.own
 have hcut:=h.cur.cut nc hnc
 have hlk:∀ (i:Nat) (r:RR) (b:Nat),(zei l k (.slice A nc c))[i]? = some r → r.c.ownBlock = some b → ∃ r',(zei l k (.slice A n c))[i]? = some r' ∧ r'.c.ownBlock = some b:=by
  intro i r b h1 h2
  obtain ⟨r0,h3,⟨rfl,h4⟩ | ⟨h4,h5⟩⟩:=zib h1
  ·exact ⟨{ r0 with c := .slice A n c },by unfold zei;rw [List.getElem?_modify,h3];simp,by rw [h4] at h2;cases A with
    | none => cases h2
    | some a => exact h2⟩
  ·exact ⟨r0,by unfold zei;rw [List.getElem?_modify,h3];simp;intro e;exact absurd e.symm h4,by rw [← h5];exact h2⟩
 refine ⟨zq7 _ hg h.res (by decide),zq7 _ hg h.pbx (by decide),h.cost.setT (p:=⟨bR,k * 5,none⟩) hg (by decide) (by decide) _,⟨by simp [zei,h.len],?_,?_⟩,⟨fun i j ri rj b hi hj bi bj => ?_,fun i ri b hi bi => ?_⟩,fun i ri b hi bi => ?_,h.bel.setCell hH _⟩
 ·intro i r p h1 h2
  obtain ⟨r0,h3,hor⟩:=zib h1
  have hrr:r.k = r0.k ∧ r.g = r0.g ∧ r.s = r0.s ∧ r.d = r0.d:=by
   unfold zei at h1;rw [List.getElem?_modify,h3] at h1;simp at h1
   split at h1 <;> (subst h1;exact ⟨rfl,rfl,rfl,rfl⟩)
  rw [List.getElem?_modify] at h2
  cases e:ps[i]? with
  | none => rw [e] at h2;simp at h2
  | some p0 =>
   rw [e] at h2
   simp at h2
   have he:=h.each i r0 p0 h3 e
   rcases hor with ⟨rfl,h4⟩ | ⟨h4,h5⟩
   ·rw [if_pos rfl] at h2
    subst h2
    refine ⟨by rw [h4];exact ((hcut.base (Nat.zero_le _)).setT (p:=⟨bR,i * 5,none⟩) hg (by decide) (by decide) _),by rw [hrr.1];exact he.2.1,by rw [hrr.2.1,hrr.2.2.1,hrr.2.2.2];exact he.2.2.setT (p:=⟨bR,i * 5,none⟩) hg (by decide) _⟩
   ·rw [if_neg (fun e => h4 e.symm)] at h2
    subst h2
    refine ⟨by rw [h5];exact ((he.1 h4).setT (p:=⟨bR,k * 5,none⟩) hg (by decide) (by decide) _),by rw [hrr.1];exact he.2.1,by rw [hrr.2.1,hrr.2.2.1,hrr.2.2.2];exact he.2.2.setT (p:=⟨bR,k * 5,none⟩) hg (by decide) _⟩
 ·rw [List.length_modify,zei, ← zpb];exact (h.own.stored _ _).1
 ·obtain ⟨r1,a1,a2⟩:=hlk i ri b hi bi
  obtain ⟨r2,b1,b2⟩:=hlk j rj b hj bj
  exact h.ap.1 i j r1 r2 b a1 b1 a2 b2
 ·obtain ⟨r1,a1,a2⟩:=hlk i ri b hi bi
  exact h.ap.2 i r1 b a1 a2
 ·obtain ⟨r0,h3,⟨rfl,h4⟩ | ⟨h4,h5⟩⟩:=zib hi
  ·rw [h4] at bi;exact (hcut.lt bi).1
  ·rw [h5] at bi;exact h.fr i r0 b h3 bi
theorem ROut.putK {w0 w:World} {pb:Nat} {C:Value} {cost:List Rat} {bR nR cR:Nat} {l:List RR} {ps:List PRow} (h:ROut w0 w pb C cost (.slice (some ⟨bR,0,none⟩) nR cR) l ps) (hn:nR = ps.length) (k:Nat) (z:Int) :
  ROut w0 (w.setCell ⟨bR,k * 5 + 1,none⟩ (.int .i64 z)) pb C cost (.slice (some ⟨bR,0,none⟩) nR cR) (l.modify k fun r => { r with k:=z }) (ps.modify k fun p => { p with kind:=z }):=by
 subst hn
 obtain ⟨cur,hg,hH⟩:=zA4 h.rows.own
 have hlk:∀ (i:Nat) (r:RR),(l.modify k fun r => { r with k:=z })[i]? = some r → ∃ r0,l[i]? = some r0 ∧ r.c = r0.c ∧ r.g = r0.g ∧ r.s = r0.s ∧ r.d = r0.d ∧ (if k = i then r.k = z else r.k = r0.k):=by
  intro i r h1
  rw [List.getElem?_modify] at h1
  cases e:l[i]? with
  | none => rw [e] at h1;simp at h1
  | some r0 =>
   rw [e] at h1
   simp at h1
   refine ⟨r0,rfl,?_⟩
   split at h1 <;> (subst h1;simp [*])
 refine ⟨zq7 _ hg h.res (by decide),zq7 _ hg h.pbx (by decide),h.cost.setT (p:=⟨bR,k * 5 + 1,none⟩) hg (by decide) (by decide) _,⟨by simp [h.rows.len],?_,?_⟩,⟨fun i j ri rj b hi hj bi bj => ?_,fun i ri b hi bi => ?_⟩,fun i ri b hi bi => ?_,h.bel.setCell hH _⟩
 ·intro i r p h1 h2
  obtain ⟨r0,h3,e1,e2,e3,e4,e5⟩:=hlk i r h1
  rw [List.getElem?_modify] at h2
  cases e:ps[i]? with
  | none => rw [e] at h2;simp at h2
  | some p0 =>
   rw [e] at h2
   simp at h2
   have he:=(h.rows.each i r0 p0 h3 e).setT (a:=⟨bR,k * 5 + 1,none⟩) hg (by decide) (by decide) (.int .i64 z)
   by_cases hk:k = i
   ·rw [if_pos hk] at h2 e5
    subst h2
    exact ⟨by rw [e1];exact he.coef,e5,by rw [e2,e3,e4];exact he.rhs⟩
   ·rw [if_neg hk] at h2 e5
    subst h2
    exact ⟨by rw [e1];exact he.coef,by rw [e5];exact he.kind,by rw [e2,e3,e4];exact he.rhs⟩
 ·rw [List.length_modify, ← zKM];exact (h.rows.own.stored _ _).1
 ·obtain ⟨r1,a1,a2,_⟩:=hlk i ri hi
  obtain ⟨r2,b1,b2,_⟩:=hlk j rj hj
  exact h.ap.1 i j r1 r2 b a1 b1 (by rw [← a2];exact bi) (by rw [← b2];exact bj)
 ·obtain ⟨r1,a1,a2,_⟩:=hlk i ri hi
  exact h.ap.2 i r1 b a1 (by rw [← a2];exact bi)
 ·obtain ⟨r1,a1,a2,_⟩:=hlk i ri hi
  exact h.fr i r1 b a1 (by rw [← a2];exact bi)
end Go.Proofs.YtdbgbaiekpbaoaaGreatDoor
namespace Go.Proofs.YtdbgbaiekpbaoaaGreatDoor
open Go.RowKit Am
open Lib (hid)
attribute [local go_sem ↓] Go.wp_at_zero Go.wp_at_succ
set_option maxHeartbeats 2000000
set_option maxRecDepth 100000
def zlz:List Rat → List Rat → Int
  | [],[] => 0
  | [],_ :: _ => -1
  | _ :: _,[] => 1
  | a :: xs,b :: ys => if zlX a b = 0 then zlz xs ys else zlX a b
theorem zot:∀ xs ys:List Rat,zlz xs ys = 0 ↔ xs = ys
 | [],[] => by simp [zlz]
 | [],_ :: _ => by simp [zlz]
 | _ :: _,[] => by simp [zlz]
 | a :: xs,b :: ys => by
  unfold zlz
  by_cases h:zlX a b = 0
  ·rw [if_pos h,zot xs ys,(zkD a b).1 h];simp
  ·rw [if_neg h]
   constructor
   ·intro e;exact absurd e h
   ·intro e;injection e with e1 _;exact absurd ((zkD a b).2 e1) h
theorem zuu {xs ys:List Rat} {k:Nat} {a b:Rat} (ha:xs[k]? = some a) (hb:ys[k]? = some b):zlz (xs.drop k) (ys.drop k) = if zlX a b = 0 then zlz (xs.drop (k + 1)) (ys.drop (k + 1)) else zlX a b:=by
 have h1:xs.drop k = a :: xs.drop (k + 1):=by
  rw [List.drop_eq_getElem_cons (List.getElem?_eq_some_iff.1 ha).1,(List.getElem?_eq_some_iff.1 ha).2]
 have h2:ys.drop k = b :: ys.drop (k + 1):=by
  rw [List.drop_eq_getElem_cons (List.getElem?_eq_some_iff.1 hb).1,(List.getElem?_eq_some_iff.1 hb).2]
 rw [h1,h2,zlz]
theorem zwD {xs ys:List Rat} {k:Nat} (h:k = min xs.length ys.length):zlz (xs.drop k) (ys.drop k) = if xs.length < ys.length then -1 else if ys.length < xs.length then 1 else 0:=by
 rcases Nat.lt_trichotomy xs.length ys.length with h1 | h1 | h1
 ·have e1:xs.drop k = []:=List.drop_eq_nil_of_le (by omega)
  rw [if_pos h1,e1]
  cases e:ys.drop k with
  | nil => have:=congrArg List.length e;simp at this;omega
  | cons => rfl
 ·have e1:xs.drop k = []:=List.drop_eq_nil_of_le (by omega)
  have e2:ys.drop k = []:=List.drop_eq_nil_of_le (by omega)
  rw [if_neg (by omega),if_neg (by omega),e1,e2];rfl
 ·have e2:ys.drop k = []:=List.drop_eq_nil_of_le (by omega)
  rw [if_neg (by omega),if_pos h1,e2]
  cases e:xs.drop k with
  | nil => have:=congrArg List.length e;simp at this;omega
  | cons => rfl
namespace Vc
theorem cmp (S:Nat) (hS:8 * S + 8 ≤ LIM) (A:Option Addr) (n c:Nat) (xs:List Rat) (H:Nat) (B:Option Addr) (n' c':Nat) (ys:List Rat) (H':Nat) (w:World) (hx:VecS w H (.slice A n c) xs) (hy:VecS w H' (.slice B n' c') ys) (zx:∀ q ∈ xs,mw q ≤ S) (zy:∀ q ∈ ys,mw q ≤ S) :
  Calls Tryz.prog 68 #[.slice A n c, .slice B n' c'] w fun e w' => e = .returned (.int .i64 (zlz xs ys)) ∧ Below w.heap.size w w':=by
 have HNX:=hid hx.len
 have HNY:=hid hy.len
 have HX:=hid hx
 have HY:=hid hy
 have HSS:=hid hS
 have ZX:=hid zx
 have ZY:=hid zy
 have hnb:n ≤ 9223372036854775807:=by have h1:=hx.form.2.1;have h2:=hx.form.2.2.1;unfold maxLen at h2;omega
 have hnb2:n' ≤ 9223372036854775807:=by have h1:=hy.form.2.1;have h2:=hy.form.2.2.1;unfold maxLen at h2;omega
 clear zx zy hS hx hy
 obtain ⟨N,hN⟩:∃ N,N = min n n':=⟨_,rfl⟩
 have HN:=hid hN
 have hNb:N ≤ 9223372036854775807:=by omega
 have hN1:N ≤ n:=by omega
 have hN2:N ≤ n':=by omega
 clear hN
 go_enter Tryz.func68,Tryz.ntmps68
 go_upto_region 1 with fail
 go_cut [11,12] (fun a b wr => a = .int .i64 (N:Int) ∧ b = .int .i64 0 ∧ wr = w)
 case first =>
  go_wp2
  all_goals
   go_meet
   case rel => exact ⟨by congr 1;have:=HN.out;omega,rfl,rfl⟩
 case rest =>
  obtain ⟨rfl,rfl,rfl⟩:=hcut
  rename World => w
  go_wp2
  go_loopw [12] (fun i wr => ∃ k:Nat,i = .int .i64 k ∧ k ≤ N ∧ zlz xs ys = zlz (xs.drop k) (ys.drop k) ∧ Below w.heap.size w wr)
   (fun i _ => N - (intOf i).toNat)
  case atStart => exact ⟨0,rfl,Nat.zero_le _,rfl,Below.refl _ _⟩
  case round =>
   obtain ⟨k,rfl,hk,hD,hB⟩:=hrel
   have HD:=hid hD
   by_cases hlt:k < N
   ·obtain ⟨bx,rfl,_,_⟩:=HX.out.has (by omega)
    obtain ⟨by_,rfl,_,_⟩:=HY.out.has (by omega)
    have ha:=zaH (xs:=xs) (j:=k) (by rw [← HNX.out];omega)
    have hb_:=zaH (xs:=ys) (j:=k) (by rw [← HNY.out];omega)
    obtain ⟨ga,Aa,ma,ca,Da,mda,cda,y0,y1,y2,hRa⟩:=(HX.out.below hB).at_ ha
    obtain ⟨gb,Ab,mb,cb,Db,mdb,cdb,z0,z1,z2,hRb⟩:=(HY.out.below hB).at_ hb_
    have HDR:=hid (zuu ha hb_)
    have HLC:=hid (show 4 * (mw (el xs k) + mw (el ys k)) + 8 ≤ LIM by have:=HSS.out;have:=ZX.out _ (List.mem_of_getElem? ha);have:=ZY.out _ (List.mem_of_getElem? hb_);omega)
    have HRa:=hid (show RatS wr ga (.slice Aa ma ca) (.slice Da mda cda) (el xs k) from hRa)
    have HRb:=hid (show RatS wr gb (.slice Ab mb cb) (.slice Db mdb cdb) (el ys k) from hRb)
    have HW:=hid (show Bel w wr from Bel.mk hB)
    have zbJ:wr.cell? ⟨bx,k * 3,none⟩ = some (.bool ga):=y0
    have x0_1d:=zaa zbJ
    have zbY:wr.cell? ⟨bx,k * 3 + 1,none⟩ = some (.slice Aa ma ca):=y1
    have x1_1d:=zaa zbY
    have zcb:wr.cell? ⟨bx,k * 3 + 2,none⟩ = some (.slice Da mda cda):=y2
    have x2_1d:=zaa zcb
    have zd7:wr.cell? ⟨by_,k * 3,none⟩ = some (.bool gb):=z0
    have x3_1d:=zaa zd7
    have zfb:wr.cell? ⟨by_,k * 3 + 1,none⟩ = some (.slice Ab mb cb):=z1
    have x4_1d:=zaa zfb
    have zfc:wr.cell? ⟨by_,k * 3 + 2,none⟩ = some (.slice Db mdb cdb):=z2
    have x5_1d:=zaa zfc
    have hi1:(0:Int) ≤ (k:Int):=Int.natCast_nonneg _
    have hi2:(k:Int) < (N:Int):=by omega
    have hi3:(k:Int) < (n:Int):=by omega
    have hi4:(k:Int) < (n':Int):=by omega
    clear hB hD ha hb_ y0 y1 y2 z0 z1 z2 hRa hRb
    go_wp2_with fail
    refine zaS (S:=fun w' => w'.cell? ⟨bx,k * 3,none⟩ = some (.bool ga) ∧ w'.cell? ⟨bx,k * 3 + 1,none⟩ = some (.slice Aa ma ca) ∧ w'.cell? ⟨bx,k * 3 + 2,none⟩ = some (.slice Da mda cda) ∧ w'.cell? ⟨by_,k * 3,none⟩ = some (.bool gb) ∧ w'.cell? ⟨by_,k * 3 + 1,none⟩ = some (.slice Ab mb cb) ∧ w'.cell? ⟨by_,k * 3 + 2,none⟩ = some (.slice Db mdb cdb)) [] (h:=fun hHeld => ?_)
    refine zaw [0,1,2,3,4,5,6,7] ?_
    repeat refine tkL (hS:=hHeld) (h:=?_)
    refine zao ?_
    refine zaB 8 (h:=fun K hK => ?_)
    go_simp
    (go_at_call 13;(with_reducible refine (Rt.cmpr ga Aa ma ca Da mda cda (el xs k) gb Ab mb cb Db mdb cdb (el ys k) _ HRa.out.drew HRb.out.drew HLC.out).mono ?_);rintro e v1 ⟨rfl,hb⟩;have zn7:=hid (HW.out.drew.below hb);have zcX:=zab hb x0_1d;have zdq:=zab hb x1_1d;have zej:=zab hb x2_1d;have zfa:=zab hb x3_1d;have zgt:=zab hb x4_1d;have zhd:=zab hb x5_1d;clear hb)
    (try go_wp2_with fail)
    refine hK.out _ _ kp fun hHeld => ?_
    clear hK K
    try simp only [Act.put,pu1,pu2,pu3,pu4,pu5,pu6]
    refine zaw [9] ?_
    repeat refine tkL (hS:=hHeld) (h:=?_)
    refine zao ?_
    refine zaM (h:=?_)
    by_cases hz:zlX (el xs k) (el ys k) = 0
    ·rw [hz]
     have HF:=hid (show zlz xs ys = zlz (xs.drop (k + 1)) (ys.drop (k + 1)) by rw [HD.out,HDR.out,if_pos hz])
     clear hz
     go_wp2
     go_roundw
     case rel => exact ⟨k + 1,by go_num,by omega,HF.out,zn7.out.b⟩
     case measure => simp [intOf];omega
    ·have HF:=hid (show zlz xs ys = zlX (el xs k) (el ys k) by rw [HD.out,HDR.out,if_neg hz])
     generalize zlX (el xs k) (el ys k) = z at hz HF
     have hz2:(z != 0) = true:=by simp [hz]
     go_wp2
     go_ret
     exact ⟨by rw [HF.out];rfl,zn7.out.b⟩
   ·obtain rfl:N = k:=by omega
    have HF:=hid (show zlz xs ys = if n < n' then -1 else if n' < n then 1 else 0 by rw [hD,zwD (by rw [← HNX.out, ← HNY.out];exact HN.out), ← HNX.out, ← HNY.out])
    have HB:=hid hB
    clear hD hB
    rcases Nat.lt_trichotomy n n' with h1 | h1 | h1
    ·have e:zlz xs ys = -1:=(by rw [HF.out,if_pos h1])
     have d1:(n:Int) < (n':Int):=(by omega)
     have E:=hid e
     clear e
     go_wp2
     go_ret
     exact ⟨by rw [E.out];rfl,HB.out⟩
    ·have e:zlz xs ys = 0:=(by rw [HF.out,if_neg (by omega),if_neg (by omega)])
     have d1:¬ (n:Int) < (n':Int):=(by omega)
     have d2:¬ (n':Int) < (n:Int):=(by omega)
     have E:=hid e
     clear e
     go_wp2
     go_ret
     exact ⟨by rw [E.out];rfl,HB.out⟩
    ·have e:zlz xs ys = 1:=(by rw [HF.out,if_neg (by omega),if_pos h1])
     have d1:¬ (n:Int) < (n':Int):=(by omega)
     have d2:(n':Int) < (n:Int):=(by omega)
     have E:=hid e
     clear e
     go_wp2
     go_ret
     exact ⟨by rw [E.out];rfl,HB.out⟩
theorem same (S:Nat) (hS:8 * S + 8 ≤ LIM) (A:Option Addr) (n c:Nat) (xs:List Rat) (H:Nat) (B:Option Addr) (n' c':Nat) (ys:List Rat) (H':Nat) (w:World) (hx:VecS w H (.slice A n c) xs) (hy:VecS w H' (.slice B n' c') ys) (zx:∀ q ∈ xs,mw q ≤ S) (zy:∀ q ∈ ys,mw q ≤ S) :
  Calls Tryz.prog 20 #[.slice A n c, .slice B n' c'] w fun e w' => e = .returned (.bool (decide (xs = ys))) ∧ Below w.heap.size w w':=by
 have HC:=hid (cmp S hS A n c xs H B n' c' ys H' w hx hy zx zy)
 have HD:=hid (show (zlz xs ys == 0) = decide (xs = ys) by rw [Bool.eq_iff_iff];simp [zot])
 clear hx hy zx zy hS
 go_enter Tryz.func20,Tryz.ntmps20
 go_wp2_with fail
 refine HC.out.mono ?_
 rintro e w1 ⟨rfl,hb⟩
 have HB:=hid hb
 clear hb
 generalize zlz xs ys = z at HD
 by_cases hz:z = 0
 ·have h2:(z == 0) = true:=by simp [hz]
  have E:=hid (show decide (xs = ys) = true by rw [← HD.out,h2])
  subst hz
  go_wp2
  go_ret
  exact ⟨by rw [E.out];rfl,HB.out⟩
 ·have h2:(z == 0) = false:=by simp [hz]
  have E:=hid (show decide (xs = ys) = false by rw [← HD.out,h2])
  go_wp2
  go_ret
  exact ⟨by rw [E.out];rfl,HB.out⟩
end Vc
end Go.Proofs.YtdbgbaiekpbaoaaGreatDoor
namespace Go.Proofs.YtdbgbaiekpbaoaaGreatDoor
open Go.RowKit Am
open Lib (hid)
theorem zH7 {p d:Int} (hp:I64 p) (hd:I64 d):mw (fr p d) ≤ 1:=by
 unfold fr
 split
 ·exact zu9 p hp
 ·have h:=zhX p d ‹_›
  have h1:=zdl (n:=p.natAbs) (by unfold B64;omega)
  have h2:=zdl (n:=d.natAbs) (by unfold B64;omega)
  omega
theorem zyq {w:World} {A:Option Addr} {ps:List (Int × Int)} (h:zcs w A ps):∀ q ∈ frs ps,mw q ≤ 1:=by
 intro q hq
 obtain ⟨x,hx,rfl⟩:=List.mem_map.1 hq
 obtain ⟨k,hk⟩:=List.mem_iff_getElem?.1 hx
 obtain ⟨h1,h2,_⟩:=h k x hk
 exact zH7 h1 h2
end Go.Proofs.YtdbgbaiekpbaoaaGreatDoor
