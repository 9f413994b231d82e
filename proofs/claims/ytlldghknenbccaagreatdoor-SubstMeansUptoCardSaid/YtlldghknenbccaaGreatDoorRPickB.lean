/- What the laws' picked of layer 9 does, of nodes that there are; whether a node has no quantifier. -/
import Derived.Test.YtlldghknenbccaaGreatDoorRSimpC
import Derived.Test.YtlldghknenbccaaGreatDoorRFixes
set_option linter.unusedSimpArgs false
set_option linter.unusedVariables false
namespace Go.Proofs.Q
open Go.RowKit Tryz

section
section
variable {P:Program} {w:World}
theorem aKW {α:Type} {R:List Value→α→Prop} {d:α} {M:Nat→Prop} {ops:Array Oper} {rest:List Oper} {o:Oper} {a:Act} {Q:Exit→Act→World→Prop} (hgd:o.guard=none) (s x:Operand) (t:TypeId)
  (ho:o.op=.call { callee:=.builtin .append,args:=#[s,x],argTypes:=#[t,t] }) (B:Nat) (e:TypeId) (i:TypeInfo) (z:Value) (size bytes:Nat) (ht:P.underlying t=some (.slice e)) (hi:P.info? e=some i) (hz:i.zero=some z)
  (hsize:i.size=size) (hby:i.bytes=bytes) (hzs:z.cells.size=size) (hsz:0<size) (v:Value) (els:List (List Value)) (hs:a.eval s=v) (hown:aL w B e size v els) {ad:Option Addr} {n c:Nat} {xs:List α} (hx:a.eval x=.slice ad n c) (hl:eU M w size R d ad n c xs)
  (h1:∀cs x,R cs x→∀u∈cs,u.oneCell'=true) (h63:els.length+n≤9223372036854775807) (hbytes:(els.length+n)*bytes≤140737488355328) (hbase:B≤w.heap.size)
  (h:∀v' w' new,aL w' B e size v' (els++new)→new.length=n→(∀i,i<n→R (new.getD i []) (xs.getD i d))→aA (Own v) w w'→DZ w v v'→wpList P ops Q rest (a.put o.dst v') w'):wpList P ops Q (o::rest) a w:=by
 cases ad with
 | none=>
  obtain ⟨rfl,rfl⟩:=eU.none hl;exact YJ w hgd s x t ho B e i size ht hi v _ _ hs hown.row hx (h v w [] (by simpa using hown) rfl (fun i hi=>zZ) (aA.refl _ _) (fun k hk=>.inl hk))
 | some p=>
  obtain ⟨new,q1,q2,q3,q4⟩:=eU.els hl;refine bY w hgd s x t ho B e i z size bytes ht hi hz hsize hby hzs hsz v els hs hown p c n new hx q1 q2 (q4 p rfl) ?_ h63 hbytes hbase ?_
  ·intro u hu;obtain ⟨cs,hcs,hu⟩:=List.mem_flatten.1 hu;obtain ⟨k,hk,rfl⟩:=List.mem_iff_getElem.1 hcs;have h2:=q3 k zZ;rw [show new.getD k []=new[k] by simp [List.getD,jZ2 hk]] at h2;exact h1 _ _ h2 u hu
  ·intro v' w' ho' hk hf _;exact h v' w' new ho' q1 q3 hk hf
end
end
theorem aFW {V:List Int} {B0:Nat} {O M0 M1:Nat→Prop} {w:World} {g gm:Nat} {A:aC} {a:Option Addr} {n c:Nat} {ids:List Int} {nodes limbs sp ov kind:Int} (hA:bW O w g gm A) (hT:Tab B0 w) (hO:∀b,O b→M0 b) (hM0:MB M0 w) (hm:bR M0 w gm nodes limbs sp ov)
  (h:cE M1 w a n c ids) (hI:bE V nodes limbs A sp) (hn:nodes≤2000) (hl:limbs≤8) (hV:V.length≤262144) (hids:∀k∈ids,0≤k∧k<(A.nodes.length:Int)) (hbig:(iB A.nodes kind ids).length≤17592186044000) (hkd:kind=5∨kind=6) :
  Calls prog 107 #[.pointer (some ⟨g,0,none⟩),.int .i64 kind,.slice a n c] w fun e w'=>cO O M0 w g gm nodes limbs (cR A nodes limbs sp ov kind ids) e w':=
 aSU hA hT hO hM0 hm h hI.inv.sp0 hI.inv.spn hn (by have:=hI.inv.cnt;have:=hI.inv.spn;omega) (hI.fine hn hl hV) hbig hkd (YF hI.inv hn hV zZ zZ (fun _=>rfl) (oI _) fun k hk=>by
  obtain ⟨y,hy,hxy⟩:=KO (cL.1 hk);have h1:=hids y hy;have h2:=KJ hI.below h1.1 h1.2 hxy;omega)
end Go.Proofs.Q
