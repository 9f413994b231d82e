/- What the laws' picked of layer 9 does, of nodes that there are; whether a node has no quantifier. -/
import Derived.Test.YthjlmocbeoimaaaGreatDoorMReadsB
import Derived.Test.YthjlmocbeoimaaaGreatDoorMJoined
set_option linter.unusedSimpArgs false
set_option linter.unusedVariables false
set_option maxRecDepth 100000
set_option maxHeartbeats 2000000
namespace Go.Rid
open Go.RowKit
def pickUp (ids l:List Int) (j:Nat):List Int:=(l.take j).map fun c=>ids.getD (pickN c ids.length) 0
def pickM (ids l:List Int):List Int:=pickUp ids l 12
theorem pickUp_succ (ids l:List Int) {j:Nat} (h:j<l.length):pickUp ids l (j+1)=pickUp ids l j++[ids.getD (pickN (l.getD j 0) ids.length) 0]:=by
 unfold pickUp;rw [take_snoc_getD h,cZ2];rfl
theorem pickM_len {ids l:List Int}:(pickM ids l).length≤12:=by unfold pickM pickUp;rw [hZ1,iZ1];omega
theorem pickM_mem {ids l:List Int} (h:1≤ids.length) {x:Int} (hx:x∈pickM ids l):x∈ids:=by
 obtain ⟨c,-,rfl⟩:=iZ2.1 hx;exact cC 0 (pickN_lt h)
end Go.Rid
namespace Go.Proofs.Q
open Go.RowKit Go.Rid
theorem picked9_any {M M1:Nat→Prop} {w:World} {al ai:Option Addr} {nl cl ni ci:Nat} {l ids:List Int} (hl:bH M w al nl cl l) (hi:bH M1 w ai ni ci ids) (hv:∀k∈l,I64 k) (h1:1≤ids.length) (h2:ids.length≤1000000) :
  Calls Tryz.prog 13 #[.slice ai ni ci,.slice al nl cl,.bool false] w fun e w'=>∃v,e=.returned v∧aP w' w.heap.size 3 1 v (aQ (pickM ids l))∧aA Nil w w':=by
 obtain ⟨i1,hi1⟩:=info_parts info_int;have HI:=jJ hi1;have hni:ids.length=ni:=SlOf.len hi;have hcap:=SlOf.cap hi;have hle:=SlOf.le hi;have hnq:l.length=nl:=SlOf.len hl;have hcapq:=SlOf.cap hl;have hleq:=SlOf.le hl;have hni1:1≤ni:=by omega
 have hni2:ni≤1000000:=by omega
 have HA:=jJ (aI5 hl hi hni hnq hv);clear hi1 hl hi hni hnq h1 h2 hv;go_enter Tryz.func13,Tryz.ntmps13
 go_wp2_with fail
 go_loopw [7,8] (fun v i wr=>∃(j:Nat) (va:Option Addr) (vc:Nat),j≤nl∧j≤12∧i=.int .i64 (j:Int)∧v=.slice va j vc∧aP wr w.heap.size 3 1 (.slice va j vc) (aQ (pickUp ids l j))∧aA Nil w wr) (fun _ i _=>12-(intOf i).toNat)
 case atStart=>exact⟨0,none,0,aZ2 _,aZ2 _,rfl,rfl,aP.nil _ _ _ _,aA.refl _ _⟩
 case round=>
  obtain ⟨j,va,vc,hj,hj5,rfl,rfl,hown,hkr⟩:=hrel;have lr:w.heap.size≤wr.heap.size:=hkr.size;have hcl2:(aQ (pickUp ids l j)).length=j:=by
   have:=HA.o.2.2.2.1;rw [aL];unfold pickUp;rw [hZ1,iZ1];omega
  by_cases hlt:j<nl∧j<12
  ·have hkj:j<l.length:=by have:=HA.o.2.2.2.1;omega
   obtain ⟨b,off,rfl,ck⟩:=aY (HA.o.1.keepNil hkr) hlt.1;have hci:=HA.o.r4 (l.getD j 0) (cC 0 hkj);have hsu:=pickUp_succ ids l hkj;obtain ⟨x,hx⟩:∃x,x=l.getD j 0:=⟨_,rfl⟩;rw [←hx] at ck hci hsu;rw [HA.o.2.2.1] at hsu;obtain ⟨p,hp⟩:∃p,p=pickN x ni:=⟨_,rfl⟩;have hpl:p<ni:=by rw [hp];exact pickN_lt (by omega)
   obtain ⟨b2,off2,rfl,cp⟩:=aY (HA.o.2.1.keepNil hkr) hpl;rw [←hp] at hsu;obtain ⟨y,hy⟩:∃y,y=ids.getD p 0:=⟨_,rfl⟩;rw [←hy] at hsu cp;have j0:(0:Int)≤(j:Int):=by omega
   have j1:(j:Int)<(nl:Int):=by omega
   have j2:(j:Int)<12:=by omega
   have j3:(0:Int)≤(p:Int):=by omega
   have j4:(p:Int)<(ni:Int):=by omega
   have HC:=jJ (aI7 hown hkr hsu hcl2 hci hp lr);clear hown hkr hsu hcl2 hci hp hx hy hlt lr;go_wp2_with (first|(go_at_call 14;refine (pick8_any (c:=x) (n:=ni) HC.o.r4.1 hni1 hni2).mono ?_;rintro e w1 ⟨rfl,rfl⟩;rw [←HC.o.r5.1])|(at_builtin;go_loud (refine bI _ rfl (.tmp 31) (.tmp 42) 22 rfl w.heap.size 3 i1 (.int .i64 0) 1 8 Tryz.underlying22 HI.o.1 HI.o.2.1 HI.o.2.2.1 HI.o.2.2.2 rfl (by decide) (.slice va j vc) _ rfl (HC.o.1.keepNil (w':=wr.alloc (.cells #[.int .i64 y] 3)) kOf) ⟨wr.heap.size,0,none⟩ 1 1 [[.int .i64 y]] rfl rfl (by simp) (alloc_news _ _ _) (by simp [Value.oneCell']) (by rw [HC.o.2.2.2.1];omega) (by rw [HC.o.2.2.2.1];omega) (by have:=HC.o.2.1.size;simp;omega) ?_);intro v' w2 ho hk2 hf2 _;obtain ⟨a7,c7,rfl⟩:=ho.isSlice;have e7:(aQ (pickUp ids l j)++[[Value.int .i64 y]]).length=j+1:=(by have q:=HC.o.2.2.2.1;have q2:(aQ (pickUp ids l j)++[[Value.int .i64 y]]).length=(aQ (pickUp ids l j)).length+1:=aZ1;omega);rw [e7] at ho⊢;have HO:=jJ (aI ho hk2);clear ho hk2 hf2 e7))
   go_roundw
   case rel=>exact⟨j+1,a7,c7,by omega,by omega,by go_num,rfl,by rw [HC.o.2.2.1,cells1_snoc];exact HO.o.1,(HC.o.2.1.trans (c:=wr.alloc (.cells #[.int .i64 y] 3)) kOf).trans' HO.o.2 (fun b hb=>.inr (HC.o.1.lt b hb).1)⟩
   case measure=>simp [intOf];omega
  ·have hend:pickUp ids l j=pickM ids l:=by
    have:=HA.o.2.2.2.1;unfold pickM pickUp;rcases Nat.lt_or_ge j 12 with h5|h5
    ·rw [eZ1 (by omega),eZ1 (by omega)]
    ·rw [show j=12 by omega]
   rw [hend] at hown;have HC:=jJ (aI hown hkr);clear hown hkr hcl2 hend;rcases Nat.lt_or_ge j nl with hjq|hjq
   ·have j5:j=12:=by omega
    subst j5;have e0:decide (((12:Nat):Int)<(nl:Int))=true:=by simp;omega
    clear hlt;go_wp2_with fail
    go_ret
    exact⟨_,rfl,HC.o.1,HC.o.2⟩
   ·have e0:decide ((j:Int)<(nl:Int))=false:=by simp;omega
    clear hlt;go_wp2_with fail
    go_ret
    exact⟨_,rfl,HC.o.1,HC.o.2⟩
theorem aplain_any {O:Nat→Prop} {w:World} {g gm:Nat} {A:aO} {i:Int} (hA:cE O w g gm A) (h0:0≤i) (h1:i<(A.nodes.length:Int)) :
  Calls Tryz.prog 15 #[.pointer (some ⟨g,0,none⟩),.int .i64 i] w fun e w'=>(∃b:Bool,e=.returned (.bool b))∧aA Nil w w':=by
 obtain ⟨B,vn,vf,vp,bm,ne,fe,h⟩:=hA;obtain ⟨an,cn,en⟩:=h.nodes.isSlice;obtain ⟨ap,cp,ep,hs⟩:=aP.sl (M:=Nil) (R:=RI) (d:=0) (xs:=A.plain) h.plain (fun _ _ h=>h) (by rw [aL]) (fun i hi=>by rw [aL] at hi;simp [RI,aQ,List.getD,hi]);rw [aL] at ep hs;have hr:=h.row;rw [en,ep,h.nl] at hr;obtain ⟨k,rfl⟩:∃k:Nat,i=(k:Int):=⟨i.toNat,by omega⟩;have hk2:k<A.plain.length:=by rw [h.pl];omega
 obtain ⟨n,hn⟩:∃n,n=A.nodes.length:=⟨_,rfl⟩;obtain ⟨m,hm⟩:∃m,m=A.plain.length:=⟨_,rfl⟩;rw [←hn] at hr h1;rw [←hm] at hr hs hk2;have he:decide (0≤(k:Int)∧(k:Int)<(n:Int))=true:=by simp;omega
 obtain ⟨x,hx⟩:∃x,x=A.plain.getD k 0:=⟨_,rfl⟩;have j0:(0:Int)≤(k:Int):=by omega
 have j1:(k:Int)<(m:Int):=by omega
 have hg:=hr.lt;have hs:bH Nil w ap m cp A.plain:=hs;have HA:=jJ (aI4 hr hs hx hk2);have HE:=jJ he;clear h hr hs hx en ep hn hm hk2 h0 h1 he;go_enter Tryz.func15,Tryz.ntmps15
 go_wp2_with (go_at_call 31;go_loud (refine (ahas_any (i:=(k:Int)) HA.o.1).mono ?_;rintro e w1 ⟨rfl,hk1⟩;rw [HE.o];have c2:w1.cell? ⟨g,2,none⟩=some (.slice ap m cp):=(HA.o.1.keep hk1 id).cell 2;have hlw:=hk1.size;obtain ⟨b,off,rfl,cx⟩:=aY (HA.o.2.1.keepNil hk1) HA.o.2.2.2;rw [←HA.o.2.2.1] at cx;have H1:=jJ hk1;clear hk1))
 go_ret
 exact⟨⟨_,rfl⟩,H1.o⟩
end Go.Proofs.Q

namespace Go.Rid
open Go.RowKit
section
variable {P:Program} {w:World}
theorem wpList_append_sl {α:Type} {R:List Value→α→Prop} {d:α} {M:Nat→Prop} {ops:Array Oper} {rest:List Oper} {o:Oper} {a:Act} {Q:Exit→Act→World→Prop} (hgd:o.guard=none) (s x:Operand) (t:TypeId)
  (ho:o.op=.call { callee:=.builtin .append,args:=#[s,x],argTypes:=#[t,t] }) (B:Nat) (e:TypeId) (i:TypeInfo) (z:Value) (size bytes:Nat) (ht:P.underlying t=some (.slice e)) (hi:P.info? e=some i) (hz:i.zero=some z)
  (hsize:i.size=size) (hby:i.bytes=bytes) (hzs:z.cells.size=size) (hsz:0<size) (v:Value) (els:List (List Value)) (hs:a.eval s=v) (hown:aP w B e size v els) {ad:Option Addr} {n c:Nat} {xs:List α} (hx:a.eval x=.slice ad n c) (hl:SlOf M w size R d ad n c xs)
  (h1:∀cs x,R cs x→∀u∈cs,u.oneCell'=true) (h63:els.length+n≤9223372036854775807) (hbytes:(els.length+n)*bytes≤140737488355328) (hbase:B≤w.heap.size)
  (h:∀v' w' new,aP w' B e size v' (els++new)→new.length=n→(∀i,i<n→R (new.getD i []) (xs.getD i d))→aA (Own v) w w'→Fresh w v v'→wpList P ops Q rest (a.put o.dst v') w'):wpList P ops Q (o::rest) a w:=by
 cases ad with
 | none=>
  obtain ⟨rfl,rfl⟩:=SlOf.none hl;exact wpList_append_ownR_none w hgd s x t ho B e i size ht hi v _ _ hs hown.row hx (h v w [] (by simpa using hown) rfl (fun i hi=>by omega) (aA.refl _ _) (fun k hk=>.inl hk))
 | some p=>
  obtain ⟨new,q1,q2,q3,q4⟩:=SlOf.els hl;refine bI w hgd s x t ho B e i z size bytes ht hi hz hsize hby hzs hsz v els hs hown p c n new hx q1 q2 (q4 p rfl) ?_ h63 hbytes hbase ?_
  ·intro u hu;obtain ⟨cs,hcs,hu⟩:=List.mem_flatten.1 hu;obtain ⟨k,hk,rfl⟩:=List.mem_iff_getElem.1 hcs;have h2:=q3 k (by omega);rw [show new.getD k []=new[k] by simp [List.getD,jZ2 hk]] at h2;exact h1 _ _ h2 u hu
  ·intro v' w' ho' hk hf _;exact h v' w' new ho' q1 q3 hk hf
end
end Go.Rid
