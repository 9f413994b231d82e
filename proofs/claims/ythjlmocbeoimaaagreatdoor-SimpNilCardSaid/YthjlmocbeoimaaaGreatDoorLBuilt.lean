/- What the laws' built does: a recipe's nodes in an arena. Conditions: the arena stands; the recipe reads; the library's table; room. -/
import Derived.Test.YthjlmocbeoimaaaGreatDoorLReadsB
set_option linter.unusedSimpArgs false
set_option linter.unusedVariables false
namespace Go.Rid
open Go.RowKit
def Cells9 (w:World) (b o:Nat) (gd gk:Bool) (ad ap ak aq:Option Addr) (nd cd np cp nk ck nq cq:Nat) (m:MakeV):Prop:=
 w.cell? ⟨b,o,none⟩=some (.int .i64 m.kind)∧w.cell? ⟨b,o+1,none⟩=some (.int .i64 m.x.kind)∧w.cell? ⟨b,o+2,none⟩=some (.bool gd)∧w.cell? ⟨b,o+3,none⟩=some (.slice ad nd cd)∧w.cell? ⟨b,o+4,none⟩=some (.slice ap np cp)∧w.cell? ⟨b,o+5,none⟩=some (.bool gk)∧w.cell? ⟨b,o+6,none⟩=some (.slice ak nk ck)∧w.cell? ⟨b,o+7,none⟩=some (.int .i64 m.v)∧w.cell? ⟨b,o+8,none⟩=some (.slice aq nq cq)
theorem MakesAt.at {M:Nat→Prop} {w:World} {a:Option Addr} {n c:Nat} {l:List MakeV} (h:MakesAt M w a n c l) {i:Nat} (hi:i<n) :
  ∃b off gd gk ad ap ak aq nd cd np cp nk ck nq cq,a=some ⟨b,off,none⟩∧b<w.heap.size∧¬M b∧Cells9 w b (off+i*9) gd gk ad ap ak aq nd cd np cp nk ck nq cq (l.getD i zeroM)∧MakeAt M w gd ad nd cd ap np cp gk ak nk ck aq nq cq (l.getD i zeroM):=by
 obtain ⟨b,off,cs,rfl,hb,hn,hl,hc,gd,ad,nd,cd,ap,np,cp,gk,ak,nk,ck,aq,nq,cq,rfl,r⟩:=SlOf.at h hi
 exact⟨b,off,gd,gk,ad,ap,ak,aq,nd,cd,np,cp,nk,ck,nq,cq,rfl,hb,hn,⟨hc 0 (by omega),hc 1 (by omega),hc 2 (by omega),hc 3 (by omega),hc 4 (by omega),hc 5 (by omega),hc 6 (by omega),hc 7 (by omega),hc 8 (by omega)⟩,r⟩
end Go.Rid
namespace Go.Proofs.YthjlmocbeoimaaaGreatDoor
open Go.RowKit Go.Rid
end Go.Proofs.YthjlmocbeoimaaaGreatDoor
