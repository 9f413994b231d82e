/- From the form's own reading of an argument to the words of the walks: slices of whatever elements, limbs, numb. -/
import Derived.Lib.SmallJoins
import Derived.Test.YthjlmocbeoimaaaGreatDoorMKey
set_option linter.unusedSimpArgs false
set_option linter.unusedVariables false
namespace Go.Rid
open Go.RowKit Go.Deep Go.ChangeShapes Go.WideShapes Go.Joins

section
variable {H:Type} {enc:TypeId × Value→H} {P:Program} {w:World}
def Light (P:Program) (t:TypeId) (d:DataW H):Prop:=∀x∈d.weights P t,x≤reachBytes
theorem Light.slice {t e:TypeId} {elems spare:List (DataW H)} (h:Light P t (.slice elems spare)) (ht:P.underlying t=some (.slice e)):(elems.length+spare.length)*P.bytesOf e≤reachBytes:=
 h _ (by simp [DataW.weights,ht])
theorem cells_of {b:Nat} {a:Addr} {n:Nat} {cs:List Value} (h:w.cells? b a n=some cs):cs.length=n∧∀j,j<n→w.cell? (a.add j)=cs[j]?:=by
 unfold World.cells? at h;split at h
 ·have hl:=mapM_some_length h;refine ⟨by simpa using hl,fun j hj=>?_⟩;have:=mapM_some_get h j j (by simp [hj]);simpa using this
 ·cases h

end
end Go.Rid
namespace Go.Proofs.Q
open Go.Proofs.YthjlmocbeoimaaaGreatDoor
open Go.RowKit Go.Rid Go.Deep Go.ChangeShapes Go.WideShapes Go.Joins
section
variable {H:Type} {enc:TypeId × Value→H} {w:World}
end
end Go.Proofs.Q

namespace Go.Proofs.Q
open Go.Proofs.YthjlmocbeoimaaaGreatDoor
open Go.RowKit Go.Rid Go.Deep Go.ChangeShapes Go.WideShapes Go.Joins
section
variable {H:Type} {enc:TypeId × Value→H} {w:World}
end
theorem laid_tail {P:Program} {x:String × DataW Unit} {r:List (String × DataW Unit)} {w:World} (h:laidMet P (x::r) w):laidMet P r w:=by
 obtain ⟨ps,hv,hnd,hrows⟩:=h;obtain ⟨n,d⟩:=x;obtain ⟨g,t,cs,fuel,p,q,_,_,_,_,hq,rfl⟩:=hv;exact⟨q,hq,List.Nodup.sublist (List.sublist_append_right _ _) hnd,fun b off hm=>hrows b off (List.mem_append_right _ hm)⟩
theorem gTab:Tryz.prog.globalNamed "internal/strconv.uint64pow10"=some 0:=by kernel_rfl
theorem gTabType:(Tryz.prog.globals[0]?).map (·.type)=some 222:=by kernel_rfl
theorem cellsTab:Tryz.prog.cellsOf 222=20:=by kernel_rfl
theorem cellsU64:Tryz.prog.cellsOf 121=1:=by kernel_rfl
theorem tab_of_laid {W:World} (h:laidMetH Tryz.prog [("math/bits.deBruijn32tab",Rows.laid_math_bits_deBruijn32tab),("math/bits.deBruijn64tab",Rows.laid_math_bits_deBruijn64tab),("internal/strconv.uint64pow10",Rows.laid_internal_strconv_uint64pow10)] W):Tab W.heap.size W:=
 ⟨bZ2 _,Lib.tabBelow_of_tabIs (Lib.tabIs_of_head (rest:=[]) gTab gTabType Tryz.underlying222 Tryz.underlying121 cellsU64 cellsTab (laid_tail (laid_tail h)))⟩
def litOf (d:DataW Unit):Value:=match d with
 | .lit (.int k z)=>.int k z
 | _=>undef
def litsOf (d:DataW Unit):List Value:=match d with
 | .agg ps=>ps.map litOf
 | _=>[]
def setTab (d:DataW Unit) (o:Obj):Obj:=match o with
 | .cells _ t frozen=>.cells (litsOf d).toArray t frozen
 | o=>o
noncomputable def laidWorld (os:Os):World:=
 { World.holding Tryz.prog os ⟨#[],#[],[]⟩ with heap:=(((World.holding Tryz.prog os ⟨#[],#[],[]⟩).heap.modify 0 (setTab Rows.laid_internal_strconv_uint64pow10)).modify 1 (setTab Rows.laid_math_bits_deBruijn32tab)).modify 2 (setTab Rows.laid_math_bits_deBruijn64tab) }
end Go.Proofs.Q
