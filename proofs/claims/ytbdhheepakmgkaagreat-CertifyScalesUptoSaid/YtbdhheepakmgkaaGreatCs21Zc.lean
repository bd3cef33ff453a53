/- Contracts and lemmas: Cs21. Conditions: as each says. -/
import Derived.Test.YtbdhheepakmgkaaGreatNgZc
set_option linter.all false
set_option maxRecDepth 100000
namespace Go.Proofs.YtbdhheepakmgkaaGreat
open Go.RowKit Am
theorem yh1(t:Rat)(y:List Rat)(k:Nat):el (scale t y) k=t*el y k:=by
 by_cases hk:k<y.length
 ·exact znd (zvn (zaH hk))
 ·rw[zDb (by rw[zfH];omega),zDb (by omega),Rat.mul_zero]
theorem yh3{t:Rat}(a:0<t)(p:PRow)(q:Rat):zIc p (t*q)=zIc p q:=by
 have c:(0<t*q)↔0<q:=⟨fun h=>Rat.not_le.1 fun b=>by have:=Rat.mul_nonneg (Rat.le_of_lt a) (show 0 ≤ -q by grind);grind,fun h=>Rat.mul_pos a h⟩
 have e:(t*q<0)↔q<0:=⟨fun h=>Rat.not_le.1 fun b=>by have:=Rat.mul_nonneg (Rat.le_of_lt a) b;grind,fun h=>by have:=Rat.mul_pos a (show 0 < -q by grind);grind⟩
 unfold zIc;rw[decide_eq_decide.2 c,decide_eq_decide.2 e]
theorem yiD(t:Rat)(rows:List PRow)(y:List Rat)(j m:Nat):tj rows (scale t y) j m=t*tj rows y j m:=by
 unfold tj;rw[←za7];exact zaj fun k _=>by rw[yh1];grind
theorem yiC(t:Rat)(rows:List PRow)(y:List Rat):sb (scale t y) rows=t*sb y rows:=by
 unfold sb zPV;rw[←za7];exact zaj fun k _=>by rw[yh1];grind
section
variable {n:Nat} {cost x y d:List Rat} {rows:List PRow} (h:Rows n rows) (hc:cost.length=n)
include h hc in
theorem yiA{t:Rat}(a:0<t):ydS n (scale t cost) rows (scale t y)=ydS n cost rows y:=by
 rw[Bool.eq_iff_iff,ydU h hc,ydU h (by rw[zfH];exact hc)];have e:∀j,(tj rows (scale t y) j rows.length≤el (scale t cost) j)↔tj rows y j rows.length≤el cost j:=fun j=>by
  rw[yiD,yh1];exact⟨fun h=>Rat.not_lt.1 fun c=>by have:=Rat.mul_pos a (show 0<tj rows y j rows.length-el cost j by grind);grind,fun h=>Rat.mul_le_mul_of_nonneg_left h (Rat.le_of_lt a)⟩
 have b:∀k,zIc (rows.getD k default) (el (scale t y) k)=zIc (rows.getD k default) (el y k):=fun k=>by rw[yh1,yh3 a]
 simp only[e,b]
include h in
theorem yh8:yeu n rows y=true↔(∀j,j<n→tj rows y j rows.length≤0)∧(∀k,k<rows.length→zIc (rows.getD k default) (el y k)=true)∧0<sb y rows:=by
 refine⟨yea h,fun⟨a,b,c⟩=>?_⟩;unfold yeu zId zxD;rw[Bool.and_eq_true,Bool.and_eq_true,decide_eq_true_iff,Bool.not_eq_true',List.any_eq_false,List.all_eq_true];refine⟨⟨fun k hk=>b k (List.mem_range.1 hk),fun q l=>?_⟩,c⟩;obtain⟨j,hj⟩:=List.mem_iff_getElem?.1 l;have f:=(List.getElem?_eq_some_iff.1 hj).1;rw[zfH,yee h]at f;have e:=znd hj;rw[yh1,yej y h f]at e;have:=a j f;have g:((-1:Int):Rat) = -1:=rfl;rw[g]at e;intro i;have:=of_decide_eq_true i;grind
include h in
theorem yiB{t:Rat}(a:0<t):yeu n rows (scale t y)=yeu n rows y:=by
 rw[Bool.eq_iff_iff,yh8 h,yh8 h];have e:∀j,(tj rows (scale t y) j rows.length≤0)↔tj rows y j rows.length≤0:=fun j=>by
  rw[yiD];exact⟨fun h=>Rat.not_lt.1 fun b=>by have:=Rat.mul_pos a b;grind,fun h=>by have:=Rat.mul_nonneg (Rat.le_of_lt a) (show 0 ≤ -tj rows y j rows.length by grind);grind⟩
 have c:∀k,zIc (rows.getD k default) (el (scale t y) k)=zIc (rows.getD k default) (el y k):=fun k=>by rw[yh1,yh3 a]
 have f:(0<sb (scale t y) rows)↔0<sb y rows:=by
  rw[yiC];exact⟨fun h=>Rat.not_le.1 fun b=>by have:=Rat.mul_nonneg (Rat.le_of_lt a) (show 0 ≤ -sb y rows by grind);grind,fun h=>Rat.mul_pos a h⟩
 simp only[e,c,f]
end
theorem yi5{n:Nat}{cost y:List Rat}{rows:List PRow}(h:Rows n rows)(hc:cost.length=n){t:Rat}(a:0<t):yep n (scale t cost) rows (scale t y)=yep n cost rows y:=by
 unfold yep;rw[yiA h hc a,zfH]
theorem yi6{n:Nat}{y:List Rat}{rows:List PRow}(h:Rows n rows){t:Rat}(a:0<t):yeD n rows (scale t y)=yeD n rows y:=by
 unfold yeD;rw[yiB h a,zfH]
