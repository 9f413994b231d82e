/- What the laws' picked of layer 9 does, of nodes that there are; whether a node has no quantifier. -/
import Derived.Test.YtlldghknenbccaaGreatDoorPSimpC
import Derived.Test.YtlldghknenbccaaGreatDoorPFixes
set_option linter.unusedSimpArgs false
set_option linter.unusedVariables false
namespace Go.Proofs.Q
open Go.RowKit Tryz

section
section
variable {P:Program} {w:World}
end
end
theorem sjoin_big {V:List Int} {B0:Nat} {O M0 M1:Nat→Prop} {w:World} {g gm:Nat} {A:aF} {a:Option Addr} {n c:Nat} {ids:List Int} {nodes limbs sp ov kind:Int} (hA:bX O w g gm A) (hT:Tab B0 w) (hO:∀b,O b→M0 b) (hM0:MB M0 w) (hm:bK M0 w gm nodes limbs sp ov)
  (h:cB M1 w a n c ids) (hI:bW V nodes limbs A sp) (hn:nodes≤2000) (hl:limbs≤8) (hV:V.length≤262144) (hids:∀k∈ids,0≤k∧k<(A.nodes.length:Int)) (hbig:(flatL A.nodes kind ids).length≤17592186044000) (hkd:kind=5∨kind=6) :
  Calls prog 107 #[.pointer (some ⟨g,0,none⟩),.int .i64 kind,.slice a n c] w fun e w'=>cK O M0 w g gm nodes limbs (cV A nodes limbs sp ov kind ids) e w':=
 joined_any hA hT hO hM0 hm h hI.inv.sp0 hI.inv.spn hn (by have:=hI.inv.cnt;have:=hI.inv.spn;omega) (hI.fine hn hl hV) hbig hkd (roomK hI.inv hn hV (by omega) (by omega) (fun _=>rfl) (neatF_pair _) fun k hk=>by
  obtain ⟨y,hy,hxy⟩:=left_mem (dI.1 hk);have h1:=hids y hy;have h2:=flatX_mem hI.below h1.1 h1.2 hxy;omega)
end Go.Proofs.Q
