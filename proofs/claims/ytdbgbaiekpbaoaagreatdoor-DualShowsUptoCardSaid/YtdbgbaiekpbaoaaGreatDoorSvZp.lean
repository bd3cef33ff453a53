/- What rows sum up to,each so often: plain sums,and how long their numbers grow. Conditions: as each says. What dual.Solve tells of a small problem whose costs are not below 0 shows itself: plain lists. Conditions: as each says. Conditions: as they say. -/
import Derived.Test.YtdbgbaiekpbaoaaGreatDoorSlv19Zp
set_option linter.all false
namespace Go.Proofs.YtdbgbaiekpbaoaaGreatDoor
open Go.RowKit Am
set_option maxRecDepth 100000
def zPA (n:Nat) (ys:List Rat) (rows:List PRow):Nat → List Rat
  | 0 => List.replicate n 0
  | k + 1 => zly (zPA n ys rows k) (el ys k) (rows.getD k default).coef
def sv (n:Nat) (ys:List Rat) (rows:List PRow):List Rat:=zPA n ys rows rows.length
def zPV (ys:List Rat) (rows:List PRow) (k:Nat):Rat:=zai k fun i => el ys i * (rows.getD i default).rhs
def sb (ys:List Rat) (rows:List PRow):Rat:=zPV ys rows rows.length
theorem zPw {n:Nat} {ys:List Rat} {rows:List PRow} (h:Rows n rows):∀ k,k ≤ rows.length → (zPA n ys rows k).length = n
 | 0,_ => by simp [zPA]
 | k + 1,hk => by
  have ih:=zPw (ys:=ys) h k (by omega)
  obtain ⟨p,hp⟩:∃ p,rows[k]? = some p:=⟨rows[k]'(by omega),List.getElem?_eq_getElem _⟩
  have hc:=(h p (List.mem_of_getElem? hp)).1
  show (zly _ _ _).length = n
  rw [zfC hp,zdt (by omega),ih]
theorem zQr {xs ys:List Rat} {r q:Rat} (h:q ∈ zly xs r ys):∃ a ∈ xs, ∃ b ∈ ys,q = a + r * b:=by
 obtain ⟨k,hk⟩:=List.mem_iff_getElem?.1 h
 unfold zly at hk
 rw [List.getElem?_zipWith] at hk
 cases ha:xs[k]? with
 | none => rw [ha] at hk;simp at hk
 | some a =>
  cases hb:ys[k]? with
  | none => rw [ha,hb] at hk;simp at hk
  | some b => rw [ha,hb] at hk;simp at hk;exact ⟨a,List.mem_of_getElem? ha,b,List.mem_of_getElem? hb,hk.symm⟩
theorem zPD {n:Nat} {ys:List Rat} {rows:List PRow} (h:Rows n rows) (zy:Sm ys):∀ k,k ≤ rows.length → ∀ q ∈ zPA n ys rows k,mw q ≤ k * 2000001 + 1
 | 0,_ => by
  intro q hq
  rw [zPA] at hq
  rw [List.eq_of_mem_replicate hq];exact zvb
 | k + 1,hk => by
  intro q hq
  obtain ⟨p,hp⟩:∃ p,rows[k]? = some p:=⟨rows[k]'(by omega),List.getElem?_eq_getElem _⟩
  have hc:=(h p (List.mem_of_getElem? hp)).2.1
  rw [zPA,zfC hp] at hq
  obtain ⟨a,ha,b,hb,rfl⟩:=zQr hq
  have h1:=zPD h zy k (by omega) a ha
  have h2:=hc b hb
  have h3:=zDJ (by omega) zy k
  have h4:=zrI a (el ys k * b)
  have h5:=zdI (el ys k) b
  omega
theorem zRr {n:Nat} {rows:List PRow} (h:Rows n rows) (i:Nat):mw (rows.getD i default).rhs ≤ 1000000:=by
 rw [List.getD_eq_getElem?_getD]
 cases e:rows[i]? with
 | none => exact Nat.le_trans zvb (by decide)
 | some p => exact (h p (List.mem_of_getElem? e)).2.2
theorem zQY {n:Nat} {ys:List Rat} {rows:List PRow} (h:Rows n rows) (zy:Sm ys) (k:Nat):mw (zPV ys rows k) ≤ k * 2000001 + 1 :=
 zrK (fun i => Nat.le_trans (zdI _ _) (by have:=zDJ (by omega) zy i;have:=zRr h i;omega)) k
theorem zQd {ys:List Rat} {rows:List PRow} {k:Nat} {p:PRow} {q:Rat} (hp:rows[k]? = some p) (hq:ys[k]? = some q):zPV ys rows (k + 1) = zPV ys rows k + q * p.rhs:=by
 unfold zPV;rw [zai,znd hq,zfC hp]
theorem zQg {n:Nat} {ys:List Rat} {rows:List PRow} {k:Nat} {p:PRow} {q:Rat} (hp:rows[k]? = some p) (hq:ys[k]? = some q):zPA n ys rows (k + 1) = zly (zPA n ys rows k) q p.coef:=by
 rw [zPA,znd hq,zfC hp]
theorem VecS.set3 {w:World} {H:Nat} {v:Value} {qs:List Rat} {b:Nat} {cs:Array Value} {t:TypeId} (h:VecS w H v qs) (hb:w.heap[b]? = some (.cells cs t (0,0))) (ht:193 ≠ t) (hlt:b < H) (i j k:Nat) (u x y:Value) :
  VecS (((w.setCell ⟨b,i,none⟩ u).setCell ⟨b,j,none⟩ x).setCell ⟨b,k,none⟩ y) H v qs:=by
 have hne:v.ownBlock ≠ some b:=fun e => by have:=(h.lt e).1;omega
 exact ((h.setCell (p:=⟨b,i,none⟩) hne hb ht u).setCell (p:=⟨b,j,none⟩) hne (zar u hb) ht x).setCell (p:=⟨b,k,none⟩) hne (zar x (zar u hb)) ht y
theorem zPF {n:Nat} {ys:List Rat} {rows:List PRow} (h:Rows n rows) {j:Nat} (hj:j < n):∀ k,k ≤ rows.length → el (zPA n ys rows k) j = zai k fun i => el ys i * el (rows.getD i default).coef j
 | 0,_ => by
  show el (List.replicate n 0) j = 0
  unfold el;rw [List.getD_eq_getElem?_getD,List.getElem?_replicate];split <;> rfl
 | k + 1,hk => by
  have h1:=zPw (ys:=ys) h k (by omega)
  have hc:=(h _ (List.mem_of_getElem? (zaO (d:=default) (show k < rows.length by omega)))).1
  show el (zly _ _ _) j = _
  rw [zuD _ (by rw [h1,hc]) (by rw [h1];exact hj),zPF h hj k (by omega),zai]
theorem zQB:∀ n,n ≤ 4 → sB n 1 1 ≤ 1000000:=by decide +kernel
theorem zPU (r:Rat) {xs:List Rat} {k:Nat} (h:k < xs.length):el (scale r xs) k = r * el xs k:=znd (zvn (zaH h))
structure Shows (nC nR:Nat) (cost:List Rat) (rows:List PRow) (r:RunOut) (y x:List Rat):Prop where
  ly:y.length = nR
  sy:Sm y
  sx:Sm x
  s1:∀ k,k < nR → (rows.getD k default).kind = 1 → el y k ≤ 0
  s2:∀ k,k < nR → (rows.getD k default).kind ≠ 1 → 0 ≤ el y k
  n1:∀ k,r.at_ = some k → x = [] ∧ ((scale ((-1:Int):Rat) (sv nC y rows)).any fun q => decide (q < 0)) = false ∧ 0 < sb y rows
  y1:r.at_ = none → x.length = nC ∧ znD cost rows x = true ∧ ((zly cost ((-1:Int):Rat) (sv nC y rows)).any fun q => decide (q < 0)) = false ∧ dot cost x = sb y rows
theorem zQc:((-1:Int):Rat) = -1:=rfl
theorem Cheap.shows {nC nR:Nat} {cost:List Rat} {rows:List PRow} (h:Cheap nC nR cost rows) {r:RunOut} (hr:pivs (zKg nC nR cost rows) 4000 (zli nC nR) = r):Shows nC nR cost rows r (zLG cost rows r) (zLF nC nR rows r):=by
 obtain ⟨hB,hR⟩:=h.seq 4000
 have hz:=h.sizes h.ends
 have h0:=fun ha => h.spec0 (f:=4000) h.ends ha
 have h1:=fun k ha => h.spec (f:=4000) (k:=k) h.ends ha
 have hs:=zQB nR h.g.hr
 rw [hr] at hB hR hz h0 h1
 have lr:=h.lr
 subst lr
 have hR1:Rows nC rows:=fun p hp => ⟨(h.g.rw_ p hp).1,fun q hq => Nat.le_trans ((h.g.rw_ p hp).2.1 q hq) (by decide),Nat.le_trans (h.g.rw_ p hp).2.2 (by decide)⟩
 have sgn1:∀ {q:Rat} {k:Int},k = 1 → q * ((zfI k:Int):Rat) = q:=fun e => by rw [zKd e];grind
 have sgn2:∀ {q:Rat} {k:Int},k ≠ 1 → q * ((zfI k:Int):Rat) = -q:=fun e => by rw [zKe e];grind
 have lsv:∀ ys,(sv nC ys rows).length = nC:=fun ys => zPw hR1 _ (Nat.le_refl _)
 have esv:∀ ys j,j < nC → el (sv nC ys rows) j = zai rows.length fun i => el ys i * el (rows.getD i default).coef j:=fun ys j hj => zPF hR1 hj _ (Nat.le_refl _)
 cases ha:r.at_ with
 | some k =>
  obtain ⟨_,_,_,t1,t2,t3⟩:=zL3 h.coefs h.kinds hB h.clen (h1 k ha)
  have lw:(zbf (zc3 rows) r.cols k).length = rows.length:=(hB.weights_ok k).2
  have eY:zLG cost rows r = scale (-1) (zbf (zc3 rows) r.cols k):=by unfold zLG;rw [ha]
  have ey:∀ i,i < rows.length → el (zLG cost rows r) i = - el (zbf (zc3 rows) r.cols k) i:=fun i hi => by rw [eY,zPU _ (by rw [lw];exact hi)];grind
  refine ⟨by rw [eY,zfH,lw],fun q hq => Nat.le_trans (hz.2 q hq) hs,fun q hq => Nat.le_trans (hz.1 q hq) hs,fun t ht e => ?_,fun t ht e => ?_,fun k' hk' => ⟨by unfold zLF;rw [ha],zNy fun j hj => ?_,?_⟩,fun e => ?_⟩
  ·have:=t1 t ht;rw [sgn1 e] at this;rw [ey t ht];grind
  ·have:=t1 t ht;rw [sgn2 e] at this;rw [ey t ht];grind
  ·rw [zQc];rw [zfH,lsv] at hj
   have:=t2 j hj
   rw [zPU _ (by rw [lsv];exact hj),esv _ j hj, ← za7,zaj fun i hi => by rw [ey i hi,show (-1:Rat) * (-el (zbf (zc3 rows) r.cols k) i * el (rows.getD i default).coef j) = el (zbf (zc3 rows) r.cols k) i * el (rows.getD i default).coef j by grind]]
   exact this
  ·unfold sb zPV
   have e:zai rows.length (fun i => el (zLG cost rows r) i * (rows.getD i default).rhs) = (-1:Rat) * zai rows.length (fun i => el (zbf (zc3 rows) r.cols k) i * (rows.getD i default).rhs):=by
    rw [← za7];exact zaj fun i hi => by rw [ey i hi];grind
   rw [e];grind
  ·rw [ha] at e;cases e
 | none =>
  obtain ⟨_,t1,t2,p0,t3,t4⟩:=zL2 h.coefs h.kinds hB h.lc hR (h0 ha)
  have eY:zLG cost rows r = zcl (zc3 rows) r.cols (zjD cost rows):=by unfold zLG;rw [ha]
  have eX:zLF nC rows.length rows r = (zh1 (nC + rows.length) r.cols (za5 (zc3 rows) (zg8 rows) r.cols)).take nC:=by unfold zLF;rw [ha]
  have lX:(zLF nC rows.length rows r).length = nC:=by rw [eX,List.length_take,zl8];omega
  have ex:∀ j,j < nC → el (zLF nC rows.length rows r) j = el (zh1 (nC + rows.length) r.cols (za5 (zc3 rows) (zg8 rows) r.cols)) j:=fun j hj => by
   rw [eX];unfold el;rw [List.getD_eq_getElem?_getD,List.getD_eq_getElem?_getD,List.getElem?_take,if_pos hj]
  refine ⟨by rw [eY];exact (hB.duals_ok _).2,fun q hq => Nat.le_trans (hz.2 q hq) hs,fun q hq => Nat.le_trans (hz.1 q hq) hs,fun t ht e => ?_,fun t ht e => ?_,fun k' hk' => (by rw [ha] at hk';cases hk'),fun _ => ⟨lX,?_,zNy fun j hj => ?_,?_⟩⟩
  ·have:=t1 t ht;rw [sgn1 e] at this;rw [eY];exact this
  ·have:=t1 t ht;rw [sgn2 e] at this;rw [eY];grind
  ·rw [zoE (by rw [lX,h.lc]) (zNy fun j hj => by rw [lX] at hj;rw [ex j hj];exact p0 j),List.all_eq_true]
   intro p hp
   obtain ⟨i,hi⟩:=List.mem_iff_getElem?.1 hp
   have hil:=(List.getElem?_eq_some_iff.1 hi).1
   have ep:rows.getD i default = p:=zfC hi
   have s:=t3 i hil
   have sl:=p0 (nC + i)
   rw [ep] at s
   have ed:dot p.coef (zLF nC rows.length rows r) = zai nC fun j => el p.coef j * el (zh1 (nC + rows.length) r.cols (za5 (zc3 rows) (zg8 rows) r.cols)) j:=by
    unfold dot ziw;rw [(hR1 p hp).1];exact zaj fun j hj => by rw [ex j hj]
   have eo:zdp p (zLF nC rows.length rows r) = -(((zfI p.kind:Int):Rat) * el (zh1 (nC + rows.length) r.cols (za5 (zc3 rows) (zg8 rows) r.cols)) (nC + i)):=by
    unfold zdp;rw [ed];grind
   unfold zdH
   by_cases k1:p.kind = 1
   ·rw [zKd k1] at eo
    rw [if_pos k1,decide_eq_true];grind
   ·rw [zKe k1] at eo
    have k2:p.kind = 2:=by have:=h.g.kd p hp;have:=h.k3 p hp;omega
    rw [if_neg k1,if_pos k2,decide_eq_true];grind
  ·rw [zQc];have lc:=h.lc
   rw [zdt (by rw [lsv,lc]),lc] at hj
   have:=t2 j hj
   rw [zuD _ (by rw [lsv,lc]) (by rw [lc];exact hj),esv _ j hj,eY];grind
  ·unfold dot ziw sb zPV
   rw [h.lc,eY, ← t4];exact zaj fun j hj => by rw [ex j hj]
end Go.Proofs.YtdbgbaiekpbaoaaGreatDoor
