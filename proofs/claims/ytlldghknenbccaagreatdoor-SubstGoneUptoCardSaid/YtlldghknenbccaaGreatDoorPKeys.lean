/- Bytes of one's own, of which the row may bear a mark behind its cells (what a string turned to bytes leaves): . -/
import Derived.Test.YtlldghknenbccaaGreatDoorPAtom6
set_option linter.unusedSimpArgs false
set_option linter.unusedVariables false
set_option maxRecDepth 100000
set_option maxHeartbeats 4000000
namespace Go.Proofs.Q
open Go.RowKit Go.Maps Tryz
section
variable {l new:List Nat} {E:TypeId} {Q:Exit→Act→World→Prop} {v v1:Value} {B g:Nat} {ops:Array Oper} {rest:List Oper} {o:Oper} {a:Act} {cur:Array Value} {w1 w' w2:World} {xs:List Value} {fz:Nat × Nat} {M:Nat→Prop}
def byteV (b:Nat):Value:=.int .u8 (b:Int)
def OffRow (fz:Nat × Nat) (n:Nat):Prop:=fz=(0,0)∨n≤fz.1
def OwnB (w:World) (B:Nat) (E:TypeId) (v:Value) (l:List Nat):Prop:=
 (v=.slice none 0 0∧l=[])∨∃g cap cur fz,v=.slice (some ⟨g,0,none⟩) l.length cap∧B≤g∧w.heap[g]?=some (.cells cur E fz)∧OffRow fz cur.size∧l.length≤cap∧cap≤maxLen∧cur.size=cap∧cur.toList.take l.length=l.map byteV
theorem OwnB.of_row {w:World} (h:w.ownsRow B E 1 v l.length (l.map byteV)):OwnB w B E v l:=by
 rcases h.2 with ⟨rfl,h0⟩|⟨g,cap,cur,rfl,hb,hg,hnc,hcm,hcs,htake⟩
 ·exact .inl ⟨rfl,fZ1 h0⟩
 ·exact .inr ⟨g,cap,cur,(0,0),rfl,hb,hg,.inl rfl,hnc,hcm,by rw [hcs,Nat.mul_one],by rw [Nat.mul_one] at htake;exact htake⟩
theorem OwnB.lt {w:World} (h:OwnB w B E v l):∀b,v.ownBlock=some b→B≤b∧b<w.heap.size:=fun b hb=>by
 rcases h with ⟨rfl,rfl⟩|⟨g,cap,cur,fz,rfl,hg,hh,-⟩
 ·cases hb
 ·cases hb
  exact⟨hg,(Array.getElem?_eq_some_iff.1 hh).1⟩
theorem OwnB.keep {w:World} (h:OwnB w B E v l) (k:aA M w w') (hn:∀b,v.ownBlock=some b→¬M b):OwnB w' B E v l:=by
 rcases h with h|⟨g,cap,cur,fz,rfl,hg,hh,r⟩
 ·exact .inl h
 ·exact .inr ⟨g,cap,cur,fz,rfl,hg,by rw [k.block g (Array.getElem?_eq_some_iff.1 hh).1 (hn g rfl)];exact hh,r⟩
theorem OwnB.keepNil {w:World} (h:OwnB w B E v l) (k:aA Nil w w'):OwnB w' B E v l:=h.keep k fun _ _=>id
theorem OwnB.ne {w:World} {T:TypeId} (h:OwnB w B E v l) (r:aC w g T xs) (hE:E≠T):¬Own v g:=fun hg=>by
 rcases h with ⟨rfl,-⟩|⟨g',cap,cur,fz,rfl,hb,hg',-⟩
 ·cases hg
 ·obtain rfl:g'=g:=lZ2 hg;have h1:=hg'.symm.trans r.out;simp only [Option.some.injEq,Obj.cells.injEq] at h1;exact hE h1.2.1
theorem OwnB.cells {w:World} (h:OwnB w B E v l) (hg:v.ownBlock=some g):∀j u,(l.map byteV)[j]?=some u→w.cell? ((⟨g,0,none⟩:Addr).add j)=some u:=fun j u hj=>by
 rcases h with ⟨rfl,-⟩|⟨g',cap,cur,fz,rfl,hb,hg',-,-,-,-,ht⟩
 ·cases hg
 ·obtain rfl:g'=g:=lZ2 hg;rw [←ht,List.getElem?_take] at hj;split at hj
  ·rw [Addr.add_lit];simp only [World.cell?,hg',Nat.zero_add];simpa using hj
  ·cases hj
theorem stores_marked (P:Program) (g o:Nat) (t:TypeId) (fz:Nat × Nat):∀(vs:List Value) (i:Nat) (cur:Array Value) (w:World),w.heap[g]?=some (.cells cur t fz)→OffRow fz cur.size→o+i+vs.length≤cur.size→(∀v∈vs,v.oneCell'=true) →
  (storeCells ⟨g,o,none⟩ vs i).run P w=.ok () (w.setRow g (cur.toList.take (o+i)++vs++cur.toList.drop (o+i+vs.length)).toArray)
 | [],i,cur,w,hg,_,_,_=>by
  have e:(cur.toList.take (o+i)++[]++cur.toList.drop (o+i+([]:List Value).length)).toArray=cur:=by simp
  rw [e,setRow_self w g cur t fz hg];rfl
 | v::rest,i,cur,w,hg,hfz,hl,h1=>by
  have hlt:o+i<cur.size:=by simp at hl;omega
  have hadd:(⟨g,o,none⟩:Addr).add i=⟨g,o+i,none⟩:=Addr.add_lit ..;have hcell:w.cell? ⟨g,o+i,none⟩=some cur[o+i]:=by simp [World.cell?,hg,hlt]
  have hfro:w.frozen? ⟨g,o+i,none⟩=false:=by
   rcases hfz with rfl|hfz
   ·simp [World.frozen?,hg]
   ·obtain ⟨lo,hi'⟩:=fz;simp only at hfz;have:¬lo≤o+i:=by omega
    simp [World.frozen?,hg,this]
  have hst:(store ((⟨g,o,none⟩:Addr).add i) v).run P w=.ok () (w.setRow g (cur.setIfInBounds (o+i) v)):=by
   rw [hadd,run_store P w _ v _ (h1 v (by simp)),hcell];simp [hfro,setCell_eq_setRow w g (o+i) cur t fz v hg]
  have ih:=stores_marked P g o t fz rest (i+1) (cur.setIfInBounds (o+i) v) (w.setRow g (cur.setIfInBounds (o+i) v)) (setRow_heap w g cur _ t _ hg) (by simpa using hfz) (by simp at hl⊢;omega) fun x hx=>h1 x (lZ1 _ hx);simp only [storeCells,Sem.run_bind,hst,Result.andThen_ok,ih,setRow_setRow];congr 3;have e:=list_seg_step cur.toList (o+i) v rest (by simp at hl⊢;omega);simpa [Array.toList_setIfInBounds,Nat.add_assoc] using e
structure Put (B:Nat) (E:TypeId) (w:World) (v:Value) (w':World) (v':Value) (l:List Nat):Prop where
 own:OwnB w' B E v' l
 keep:aA (Own v) w w'
 fresh:Fresh w v v'
theorem Put.trans {w:World} {v2:Value} {l1 l2:List Nat} (h:Put B E w v w1 v1 l1) (k:Put B E w1 v1 w2 v2 l2):Put B E w v w2 v2 l2:=by
 refine ⟨k.own,h.keep.trans' k.keep fun b hb=>?_,fun b hb=>?_⟩
 ·rcases h.fresh b hb with h1|h1
  ·exact .inl h1
  ·exact .inr h1
 ·rcases k.fresh b hb with h1|h1
  ·exact h.fresh b h1
  ·exact .inr (bZ1 h.keep.size h1)
theorem Put.start {w:World} (h:OwnB w B E v l) (k:aA Nil w w1):Put B E w v w1 v l:=⟨h.keepNil k,k.of_nil,fun _ h=>.inl h⟩
theorem Put.more {w:World} (h:Put B E w v w1 v1 l) (k:aA Nil w1 w2):Put B E w v w2 v1 l:=h.trans (.start h.own k)
theorem take_put (cur:List Value) (n:Nat) (xs ys rest:List Value) (h:cur.take n=xs) (hn:n≤cur.length):(cur.take n++ys++rest).take (n+ys.length)=xs++ys:=by
 rw [h,List.take_left'];rw [aZ1,←h,iZ1,Nat.min_eq_left hn]
section
variable {P:Program} (w:World)
theorem put_room {cap:Nat} (hB:B≤g) (hg:w.heap[g]?=some (.cells cur E fz)) (hfz:OffRow fz cur.size) (hcm:cap≤maxLen) (hcs:cur.size=cap) (ht:cur.toList.take l.length=l.map byteV) (hroom:l.length+new.length≤cap) :
  Put B E w (.slice (some ⟨g,0,none⟩) l.length cap) (w.setRow g (cur.toList.take l.length++new.map byteV++cur.toList.drop (l.length+new.length)).toArray) (.slice (some ⟨g,0,none⟩) (l.length+new.length) cap) (l++new):=by
 have hsz:(cur.toList.take l.length++new.map byteV++cur.toList.drop (l.length+new.length)).toArray.size=cur.size:=by simp;omega
 refine ⟨.inr ⟨g,cap,_,fz,by rw [aZ1],hB,setRow_heap w g cur _ E _ hg,by rw [hsz];exact hfz,by rw [aZ1];exact hroom,hcm,hsz.trans hcs,?_⟩,⟨rfl,rfl,rfl,by simp [World.setRow],fun k _ hk=>setRow_other w g k _ fun e=>hk (by rw [e];rfl)⟩,fun b hb=>.inl hb⟩;rw [aZ1,cZ2,List.toList_toArray];have:=take_put cur.toList l.length (l.map byteV) (new.map byteV) (cur.toList.drop (l.length+new.length)) ht (by simp;omega);rw [hZ1] at this;exact this
theorem put_grown {cap c:Nat} (hB:B≤w.heap.size) (hc:l.length+new.length≤c) (hcm:c≤maxLen) :
  Put B E w (.slice (some ⟨g,0,none⟩) l.length cap) (w.drew.alloc (.cells ((l.map byteV).toArray++(new.map byteV).toArray++Builtin.zeroCells (Value.int .u8 0).cells (c-(l.length+new.length))) E)) (.slice (some ⟨w.heap.size,0,none⟩) (l.length+new.length) c) (l++new):=by
 have hz1:(Value.int IntKind.u8 0).cells.size=1:=rfl;refine ⟨.inr ⟨w.heap.size,c,_,(0,0),by rw [aZ1],hB,heap_alloc_new w.drew _,.inl rfl,by rw [aZ1];exact hc,hcm,?_,?_⟩,⟨rfl,rfl,rfl,by simp,fun k hk _=>heap_alloc_old w.drew _ hk⟩,fun b hb=>?_⟩
 ·simp only [Array.size_append,List.size_toArray,size_zeroCells,hz1,hZ1];omega
 ·simp only [Array.toList_append];rw [List.take_left' (by simp),←cZ2]
 ·cases hb;exact .inr (bZ2 _)
theorem run_append_ownB (B:Nat) (t ty e:TypeId) (i:TypeInfo) (ht:P.underlying t=some (.slice e)) (hi:P.info? e=some i) (hz:i.zero=some (.int .u8 0)) (hsize:i.size=1) (hby:i.bytes=1)
  (v:Value) (l:List Nat) (hown:OwnB w B e v l) (a:Addr) (c:Nat) (new:List Nat) (hnew:∀j u,(new.map byteV)[j]?=some u→w.cell? (a.add j)=some u) (hl:l.length+new.length≤140737488355328) (hB:B≤w.heap.size) :
  ∃v' w',(Builtin.append_ #[t,t] ty #[v,.slice (some a) new.length c]).run P w=.ok v' w'∧Put B e w v w' v' (l++new):=by
 have h1:∀u∈new.map byteV,u.oneCell'=true:=fun u hu=>by obtain ⟨b,_,rfl⟩:=iZ2.1 hu;rfl
 rcases hown with ⟨rfl,rfl⟩|⟨g,cap,cur,fz,rfl,hbg,hg,hfz,hnc,hcm,hcs,htake⟩
 ·obtain ⟨v',w',r1,r2,r3,r4⟩:=run_append_own (P:=P) w B t ty e i (.int .u8 0) 1 1 ht hi hz hsize hby rfl (by decide) (.slice none 0 0) 0 [] ⟨by simp,.inl ⟨rfl,rfl⟩⟩ a new.length c (new.map byteV) (by simp) hnew h1 (by unfold maxLen;simp at hl;omega) (by simp at hl;omega) hB;exact⟨v',w',r1,.of_row (by simpa using r2),(aA.ofGrownNil r3).of_nil,append_fresh (P:=P) w B t ty e i (.int .u8 0) ht hi hz (.slice none 0 0) 0 [] ⟨by simp,.inl ⟨rfl,rfl⟩⟩ a new.length c (new.map byteV) (by rw [hsize];simp) hnew h1 (by unfold maxLen;simp at hl;omega) (by rw [hby];simp at hl;omega) r1⟩
 ·by_cases hroom:l.length+new.length≤cap
  ·have hf:=run_firstCells_some (P:=P) w i.size new.length a new.length c (new.map byteV) (by rw [hsize];simp) hnew;rw [hsize] at hf;have hst:=stores_marked P g l.length e fz (new.map byteV) 0 cur w hg hfz (by simp;omega) h1;simp only [Nat.add_zero,hZ1] at hst;refine ⟨_,_,?_,put_room w hbg hg hfz hcm hcs htake hroom⟩;simp [Builtin.append_,run_underlying ht,sizeOf,typeInfo,hi,Builtin.lenOf,hroom,hf,Addr.add_lit,hsize,hst]
  ·have holds:∀j u,(l.map byteV)[j]?=some u→w.cell? ((⟨g,0,none⟩:Addr).add j)=some u:=OwnB.cells (v:=.slice (some ⟨g,0,none⟩) l.length cap) (.inr ⟨g,cap,cur,fz,rfl,hbg,hg,hfz,hnc,hcm,hcs,htake⟩) rfl;refine ⟨_,_,run_append_grow (P:=P) w t ty e i (.int .u8 0) ht hi hz ⟨g,0,none⟩ l.length cap (l.map byteV) (by rw [hsize];simp) holds a new.length c (new.map byteV) (by rw [hsize];simp) hnew (by omega) (by omega) (by rw [hby];exact growslice_fits (by omega) (by omega)),?_⟩;exact put_grown w hB (grownCap_ge ..) (grownCap_le_maxLen _ _ _ _ (by unfold maxLen;omega))
theorem wpList_bytes (hgd:o.guard=none) (s x:Operand) (t e:TypeId)
  (ho:o.op=.call { callee:=.builtin .append,args:=#[s,x],argTypes:=#[t,t] }) (i:TypeInfo) (ht:P.underlying t=some (.slice e)) (hi:P.info? e=some i) (hz:i.zero=some (.int .u8 0)) (hsize:i.size=1) (hby:i.bytes=1)
  (B:Nat) (v:Value) (l:List Nat) (hs:a.eval s=v) (hown:OwnB w B e v l) (ad:Addr) (c m:Nat) (new:List Nat) (hx:a.eval x=.slice (some ad) m c) (hm:new.length=m) (hnew:∀j u,(new.map byteV)[j]?=some u→w.cell? (ad.add j)=some u) (hl:l.length+new.length≤140737488355328) (hB:B≤w.heap.size)
  (h:∀v' w',Put B e w v w' v' (l++new)→wpList P ops Q rest (a.put o.dst v') w'):wpList P ops Q (o::rest) a w:=by
 subst hm;refine wpList_plain hgd fun K hK=>?_;obtain ⟨v',w',hr,hp⟩:=run_append_ownB (P:=P) w B t o.type e i ht hi hz hsize hby v l hown ad c new hnew hl hB;unfold Oper.wp execOp;simp only [ho,resolve,invoke,builtin,Sem.run_bind,Sem.run_pure,Result.andThen_ok,List.map_toArray,dZ2,List.map_nil,hs,hx,hr];exact hK _ _ (h v' w' hp)
theorem wpList_byte (hgd:o.guard=none) (s x:Operand) (t e:TypeId)
  (ho:o.op=.call { callee:=.builtin .append,args:=#[s,x],argTypes:=#[t,t] }) (i:TypeInfo) (ht:P.underlying t=some (.slice e)) (hi:P.info? e=some i) (hz:i.zero=some (.int .u8 0)) (hsize:i.size=1) (hby:i.bytes=1)
  (B:Nat) (v:Value) (l:List Nat) (hs:a.eval s=v) (hown:OwnB w B e v l) (b y:Nat) (hx:a.eval x=.slice (some ⟨b,0,none⟩) 1 1) (hrow:aC w b e [.int .u8 (y:Int)]) (hl:l.length≤70368744177663) (hB:B≤w.heap.size)
  (h:∀v' w',Put B e w v w' v' (l++[y])→wpList P ops Q rest (a.put o.dst v') w'):wpList P ops Q (o::rest) a w:=
 wpList_bytes w hgd s x t e ho i ht hi hz hsize hby B v l hs hown ⟨b,0,none⟩ 1 1 [y] hx rfl (fun j u hj=>by rw [Addr.add_lit,hrow.cell];simpa [byteV] using hj) (by simp;omega) hB h
theorem run_append_ownB_str (B:Nat) (t u ty e:TypeId) (i:TypeInfo) (ht:P.underlying t=some (.slice e)) (hu:P.underlying u=some .string) (hi:P.info? e=some i) (hz:i.zero=some (.int .u8 0)) (hsize:i.size=1) (hby:i.bytes=1)
  (v:Value) (l:List Nat) (hown:OwnB w B e v l) (s:ByteArray) (new:List Nat) (hs:Lib.strCells s=new.map byteV) (hl:l.length+new.length≤140737488355328) (hB:B≤w.heap.size) (hv:v≠.slice none 0 0) :
  ∃v' w',(Builtin.append_ #[t,u] ty #[v,.string s]).run P w=.ok v' w'∧Put B e w v w' v' (l++new):=by
 have hsz:s.size=new.length:=by have:=congrArg List.length hs;rw [Lib.strCells_length,hZ1] at this;exact this
 have h1:∀x∈new.map byteV,x.oneCell'=true:=fun x hx=>by obtain ⟨b,_,rfl⟩:=iZ2.1 hx;rfl
 rcases hown with ⟨rfl,rfl⟩|⟨g,cap,cur,fz,rfl,hbg,hg,hfz,hnc,hcm,hcs,htake⟩
 ·exact absurd rfl hv
 ·by_cases hroom:l.length+new.length≤cap
  ·have hf:=Lib.run_firstCells_string (P:=P) w 1 s;have hst:=stores_marked P g l.length e fz (new.map byteV) 0 cur w hg hfz (by simp;omega) h1;simp only [Nat.add_zero,hZ1] at hst;refine ⟨_,_,?_,put_room w hbg hg hfz hcm hcs htake hroom⟩;rw [hs,hsz] at hf;simp [Builtin.append_,run_underlying ht,run_underlying hu,sizeOf,typeInfo,hi,Builtin.lenOf,hsz,hroom,hf,Addr.add_lit,hsize,hst]
  ·have holds:∀j u,(l.map byteV)[j]?=some u→w.cell? ((⟨g,0,none⟩:Addr).add j)=some u:=OwnB.cells (v:=.slice (some ⟨g,0,none⟩) l.length cap) (.inr ⟨g,cap,cur,fz,rfl,hbg,hg,hfz,hnc,hcm,hcs,htake⟩) rfl;have hr:=Lib.run_append_grow_string (P:=P) w t u ty e i (.int .u8 0) ht hu hi hz ⟨g,0,none⟩ l.length cap (l.map byteV) (by rw [hsize];simp) holds s (by omega) (by omega) (by rw [hby];exact growslice_fits (by omega) (by omega));rw [hs,hsz] at hr;exact⟨_,_,hr,put_grown w hB (grownCap_ge ..) (grownCap_le_maxLen _ _ _ _ (by unfold maxLen;omega))⟩
theorem wpList_bytes_str (hgd:o.guard=none) (sl x:Operand) (t u e:TypeId)
  (ho:o.op=.call { callee:=.builtin .append,args:=#[sl,x],argTypes:=#[t,u] }) (i:TypeInfo) (ht:P.underlying t=some (.slice e)) (hu:P.underlying u=some .string) (hi:P.info? e=some i) (hz:i.zero=some (.int .u8 0)) (hsize:i.size=1) (hby:i.bytes=1)
  (B:Nat) (v:Value) (l:List Nat) (hs:a.eval sl=v) (hown:OwnB w B e v l) (s:ByteArray) (new:List Nat) (hx:a.eval x=.string s) (hnew:Lib.strCells s=new.map byteV) (hl:l.length+new.length≤140737488355328) (hB:B≤w.heap.size) (hv:v≠.slice none 0 0)
  (h:∀v' w',Put B e w v w' v' (l++new)→wpList P ops Q rest (a.put o.dst v') w'):wpList P ops Q (o::rest) a w:=by
 refine wpList_plain hgd fun K hK=>?_;obtain ⟨v',w',hr,hp⟩:=run_append_ownB_str (P:=P) w B t u o.type e i ht hu hi hz hsize hby v l hown s new hnew hl hB hv;unfold Oper.wp execOp;simp only [ho,resolve,invoke,builtin,Sem.run_bind,Sem.run_pure,Result.andThen_ok,List.map_toArray,dZ2,List.map_nil,hs,hx,hr];exact hK _ _ (h v' w' hp)
end
end
def dg36 (d:Nat):Nat:=if d<10 then 48+d else 87+d
def d36 (u:Nat):List Nat:=if h:u<36 then [dg36 u] else d36 (u / 36)++[dg36 (u % 36)]
termination_by u
decreasing_by omega
theorem d36_small {u:Nat} (h:u<36):d36 u=[dg36 u]:=by rw [d36,dif_pos h]
theorem d36_big {u:Nat} (h:¬u<36):d36 u=d36 (u / 36)++[dg36 (u % 36)]:=by rw [d36,dif_neg h]
theorem length_d36:∀(k u:Nat),u<36*2 ^ k→(d36 u).length≤k+1
 | 0,u,h=>by rw [d36_small (by simpa using h)];simp
 | k+1,u,h=>by
  by_cases hu:u<36
  ·rw [d36_small hu];simp
  ·rw [d36_big hu,aZ1];have:=length_d36 k (u / 36) (by rw [Nat.pow_succ] at h;omega);simp only [gZ1,gZ2];omega
section
variable {cs:List Value} {l:List Nat} {w:World} {v:Value} {B u i:Nat}
theorem info_byte:(prog.info? 5).map (fun i=>(i.zero,i.size,i.bytes))=some (some (.int .u8 0),1,1):=by kernel_rfl
def B36:ByteArray:=⟨#[48,49,50,51,52,53,54,55,56,57,97,98,99,100,101,102,103,104,105,106,107,108,109,110,111,112,113,114,115,116,117,118,119,120,121,122]⟩
theorem B36_at:∀i:Fin 36,(B36[i.val]'i.isLt).toNat=dg36 i.val:=by decide
theorem idx_36 (w:World) (d:Nat) (h:d<36):(Instr.index 9 (.string B36) (.int .u64 (d:Int))).run prog w=.ok (.int .u8 (dg36 d:Int)) w:=by
 rw [run_index_string w 9 _ .u64 _ underlying9,dif_pos ⟨by omega,by show (d:Int)<36;omega⟩];have e:((d:Int)).toNat=d:=by omega
 simp only [e];exact congrArg (fun (n:Nat)=>Result.ok (Value.int .u8 (n:Int)) w) (B36_at ⟨d,h⟩)
theorem pow2_36 (w:World):Calls prog 251 #[.int .i64 36] w fun e w'=>e=.returned (.bool false)∧aA Nil w w':=by
 have hb:bits BinOp.and IntKind.i64 36 35=32:=by decide
 go_enter func251,ntmps251
 go_wp2
 go_ret
 exact⟨rfl,aA.refl Nil w⟩
structure Laid (u i v:Nat) (cs:List Value) (tail:List Nat):Prop where
 size:cs.length=65
 le:i≤65
 drop:cs.drop i=tail.map byteV
 all:d36 v++tail=d36 u
 fit:v*2 ^ (65-i)≤u
theorem Laid.start (h:cs.length=65):Laid u 65 u cs []:=⟨h,bZ2 _,by simp [←h],by simp,by simp⟩
theorem drop_set {β:Type} (l:List β) (i:Nat) (x:β) (h:i<l.length):(l.set i x).drop i=x::l.drop (i+1):=by
 rw [List.drop_set,if_neg (by omega),Nat.sub_self];rw [List.drop_eq_getElem_cons h];rfl
theorem Laid.pos {v:Nat} {tail:List Nat} (h:Laid u i v cs tail) (hu:u<2 ^ 64) (hv:0<v∨i=65):0<i:=by
 rcases hv with hv|rfl
 ·rcases Nat.eq_zero_or_pos i with rfl|h0
  ·have h1:=h.fit;have h2:1*2 ^ (65-0)≤v*2 ^ (65-0):=Nat.mul_le_mul_right _ hv;omega
  ·exact h0
 ·omega
theorem Laid.step {v:Nat} {tail:List Nat} (h:Laid u (i+1) v cs tail) (hv:¬v<36):Laid u i (v / 36) (cs.set i (.int .u8 (dg36 (v % 36):Int))) (dg36 (v % 36)::tail):=by
 refine ⟨by rw [List.length_set];exact h.size,by have:=h.le;omega,?_,?_,?_⟩
 ·rw [drop_set _ _ _ (by rw [h.size];have:=h.le;omega),h.drop];rfl
 ·rw [←h.all,d36_big hv,mZ2];rfl
 ·have h1:=h.fit;have h2:=h.le;rw [show 65-i=(65-(i+1))+1 by omega,Nat.pow_succ];have h3:v / 36*(2 ^ (65-(i+1))*2)=(v / 36*2)*2 ^ (65-(i+1)):=by rw [Nat.mul_comm (2 ^ _) 2,←Nat.mul_assoc]
  rw [h3];exact bZ1 (Nat.mul_le_mul_right _ (by omega)) h1
theorem Laid.last {v:Nat} {tail:List Nat} (h:Laid u (i+1) v cs tail) (hv:v<36):(cs.set i (.int .u8 (dg36 v:Int))).drop i=(d36 u).map byteV:=by
 rw [drop_set _ _ _ (by rw [h.size];have:=h.le;omega),h.drop,←h.all,d36_small hv];rfl
theorem formatBits_any (u:Nat) (hu:u<2 ^ 64) (h:OwnB w B 5 v l) (hB:B≤w.heap.size) (hl:l.length≤70368744177664) :
  Calls prog 243 #[v,.int .u64 (u:Int),.int .i64 36,.bool false,.bool true] w fun e w'=>∃v',e=.returned (.tuple #[v',.string ⟨#[]⟩])∧Put B 5 w v w' v' (l++d36 u):=by
 have HH:=jJ (aI h hl);have hx:=fun w d h=>idx_36 w d h;clear h hl;go_enter func243,ntmps243
 rw [show (⟨#[48,49,50,51,52,53,54,55,56,57,97,98,99,100,101,102,103,104,105,106,107,108,109,110,111,112,113,114,115,116,117,118,119,120,121,122]⟩:ByteArray)=B36 from rfl];go_upto_region 4 with fail
 rw [show Tryz.zeroCells263=(List.replicate 65 (Value.int .u8 0)).toArray by kernel_rfl];have r0:aC (w.alloc (.cells (List.replicate 65 (Value.int .u8 0)).toArray 263)) w.heap.size 263 (List.replicate 65 (Value.int .u8 0)):=aC.alloc;have k0:aA Nil w (w.alloc (.cells (List.replicate 65 (Value.int .u8 0)).toArray 263)):=kOf;generalize w.alloc (.cells (List.replicate 65 (Value.int .u8 0)).toArray 263)=w0 at *
 have H0:=jJ (aI r0 k0);clear r0 k0;go_upto_region 17 with (go_at_call 251;refine (pow2_36 _).mono ?_;rintro e w1 ⟨rfl,hk1⟩;have H1:=jJ hk1;clear hk1)
 go_wp2_with fail
 go_loopw [13,1] (fun i u' wr=>∃(k t:Nat) (cs:List Value) (tail:List Nat),i=.int .i64 k∧u'=.int .u64 t∧Laid u k t cs tail∧(0<t∨k=65)∧aC wr w.heap.size 263 cs∧aA Nil w wr) (fun i u' _=>(intOf u').toNat)
 case atStart=>exact⟨65,u,_,[],rfl,rfl,Laid.start (by simp),.inr rfl,H0.o.1.keep H1.o id,H0.o.2.trans H1.o⟩
 case round=>
  obtain ⟨k,t,cs,tail,rfl,rfl,hlaid,htk,hrow,hkk⟩:=hrel;obtain ⟨k,rfl⟩:∃k',k=k'+1:=⟨k-1,by have:=hlaid.pos hu htk;omega⟩;have hk65:=hlaid.le;have ht64:t<18446744073709551616:=by have:=hlaid.fit;have h2:t*1≤t*2 ^ (65-(k+1)):=Nat.mul_le_mul_left _ (Nat.pow_pos (by omega));omega
  have c0:=hrow.cell k;have f0:=hrow.frozen k;obtain ⟨old,ho⟩:∃v0,cs[k]?=some v0:=⟨_,jZ2 (show k<cs.length by rw [hlaid.size];omega)⟩;rw [ho] at c0;clear ho;have HL:=jJ (aI3 hlaid hrow hkk);clear hlaid htk hrow hkk;by_cases ht:t<36
  ·have hi:∀W,(Instr.index 9 (.string B36) (.int .u64 (t:Int))).run prog W=.ok (.int .u8 (dg36 t:Int)) W:=fun W=>idx_36 W t ht;clear hx;have hal:prog.arrayLen 263=65:=by simp [Program.arrayLen,underlying263]
   have hsl:∀W,(Instr.sliceAt 263 (.pointer (some ⟨w.heap.size,0,none⟩)) (some (.int .i64 (k:Int))) none none).run prog W=.ok (.slice (some ⟨w.heap.size,k,none⟩) (65-k) (65-k)) W:=fun W=>by
    rw [run_sliceAt_array_l W 263 ⟨w.heap.size,0,none⟩ (by simp [Program.arrayLen,Program.elem,underlying263]) .i64 (k:Int) (by omega) (by rw [hal];omega)];go_simp
    omega
   have hrow:=HL.o.2.1.set k (.int .u8 (dg36 t:Int));have hdrop:=HL.o.1.last ht;have hkw:aA Nil w (wr.setCell ⟨w.heap.size,k,none⟩ (.int .u8 (dg36 t:Int))):=HL.o.2.2.own (bZ2 _) ((aA.refl (One w.heap.size) wr).set1 k _);have hlen:=HL.o.1.size;have hlen':(d36 u).length=65-k:=by
    have h1:=congrArg List.length hdrop;rw [dZ3,List.length_set,hlen,hZ1] at h1;exact h1.symm
   have HZ:=jJ (aI4 hrow hdrop hkw hlen');clear hlen';obtain ⟨i1,hi1⟩:=info_parts info_byte;have HI:=jJ hi1;clear hrow hdrop hkw hlen hi1 hal;go_upto_region 29 with fail
   generalize wr.setCell ⟨w.heap.size,k,none⟩ (.int .u8 (dg36 t:Int))=wz at *
   go_wp2_with (at_builtin;refine wpList_bytes _ rfl _ _ 211 5 rfl i1 underlying211 HI.o.1 HI.o.2.1 HI.o.2.2.1 HI.o.2.2.2 B v l rfl (HH.o.1.keepNil HZ.o.2.2.1) ⟨w.heap.size,k,none⟩ (65-k) (65-k) (d36 u) rfl HZ.o.2.2.2 ?l2 ?l3 (bZ1 hB HZ.o.2.2.1.size) ?_)
   case l2=>
    intro j x hj;rw [←HZ.o.2.1,List.getElem?_drop] at hj;rw [Addr.add_lit,HZ.o.1.cell];exact hj
   case l3=>have h1:=HH.o.2;have h2:=HZ.o.2.2.2;omega
   intro v2 w3 hp;have HF:=jJ ((Put.start HH.o.1 HZ.o.2.2.1).trans hp);clear hp;go_wp2
   exact bodyPost_ret (v:=.tuple #[v2,.string ⟨#[]⟩]) (by simp [results,results243,go_sem]) rfl ⟨v2,rfl,HF.o⟩
  ·have hi:∀W,(Instr.index 9 (.string B36) (.int .u64 ((t:Int)-(t:Int) / 36*36))).run prog W=.ok (.int .u8 (dg36 (t % 36):Int)) W:=fun W=>by
    rw [show (t:Int)-(t:Int) / 36*36=((t % 36:Nat):Int) by omega];exact idx_36 W _ (Nat.mod_lt _ (by omega))
   clear hx;go_wp2_with fail
   go_roundw
   case rel=>exact⟨k,t / 36,_,_,rfl,by go_num,HL.o.1.step ht,.inl (by omega),HL.o.2.1.set k _,HL.o.2.2.own (bZ2 _) ((aA.refl (One w.heap.size) wr).set1 k _)⟩
   case measure=>simp [intOf];omega
theorem iappendUint_any (u:Nat) (hu:u<2 ^ 64) (h:OwnB w B 5 v l) (hB:B≤w.heap.size) (hl:l.length≤70368744177664) :
  Calls prog 227 #[v,.int .u64 (u:Int),.int .i64 36] w fun e w'=>∃v',e=.returned v'∧Put B 5 w v w' v' (l++d36 u):=by
 have HH:=jJ (aI h hl);clear h hl;go_enter func227,ntmps227
 go_wp2_with (go_at_call 243;refine (formatBits_any u hu HH.o.1 hB HH.o.2).mono ?_;rintro e w1 ⟨v',rfl,ho⟩;have HF:=jJ ho;clear ho)
 go_ret
 exact⟨_,rfl,HF.o⟩
theorem appendUint_any (u:Nat) (hu:u<2 ^ 64) (h:OwnB w B 5 v l) (hB:B≤w.heap.size) (hl:l.length≤70368744177664) :
  Calls prog 205 #[v,.int .u64 (u:Int),.int .i64 36] w fun e w'=>∃v',e=.returned v'∧Put B 5 w v w' v' (l++d36 u):=by
 have HH:=jJ (aI h hl);clear h hl;go_enter func205,ntmps205
 go_wp2_with (go_at_call 227;refine (iappendUint_any u hu HH.o.1 hB HH.o.2).mono ?_;rintro e w1 ⟨v',rfl,ho⟩;have HF:=jJ ho;clear ho)
 go_ret
 exact⟨_,rfl,HF.o⟩
end
def From (B:Nat):Nat→Prop:=fun b=>B≤b
def magTxt (l:List Nat):List Nat:=l.flatMap fun x=>32::d36 x
def dS (z:Int):List Nat:=58::((if neg z then [45] else [])++(magTxt (bD z.natAbs)++[59]))
theorem Put.zn {B:Nat} {E:TypeId} {w w1:World} {v v1:Value} {l:List Nat} {g:Bool} {a:Option Addr} {n c:Nat} {z:Int} (h:Put B E w v w1 v1 l) (ho:∀b,v.ownBlock=some b→B≤b) (hB:B≤w.heap.size) (hz:ZN (From B) w g a n c z):ZN (From B) w1 g a n c z:=hz.move h.keep (fun b _ hb=>ho b hb) fun _ _ h=>h
theorem magTxt_snoc (l:List Nat) (x:Nat):magTxt (l++[x])=magTxt l++(32::d36 x):=by simp [magTxt]
theorem length_magTxt:∀(l:List Nat),(∀x∈l,x<4294967296)→(magTxt l).length≤29*l.length
 | [],_=>by simp [magTxt]
 | x::l,h=>by
  have h1:=length_magTxt l fun y hy=>h y (lZ1 _ hy);have h2:=length_d36 27 x (by have:=h x (kZ1 ..);omega);rw [show magTxt (x::l)=(32::d36 x)++magTxt l from rfl,aZ1,gZ1,gZ1];omega
theorem limbs_txt {B:Nat} {w:World} {v:Value} {l:List Nat} {g:Bool} {a:Option Addr} {n c:Nat} {z:Int} (h:OwnB w B 5 v l) (hB:B≤w.heap.size) (hz:ZN (From B) w g a n c z) (hl:l.length+32*nlen z.natAbs+8≤70368744177600) :
  Calls prog 179 #[v,.agg #[.bool g,.slice a n c]] w fun e w'=>∃v',e=.returned v'∧Put B 5 w v w' v' (l++dS z):=by
 have hnl:n=nlen z.natAbs:=hz.2.len.symm;have hsl:=hz.2.sl;have HA:=jJ (aI4 h hz hl hnl);have HG:=jJ hz.1;clear h hz hl hnl hsl;obtain ⟨i1,hi1⟩:=info_parts info_byte;have HI:=jJ hi1;clear hi1;have hob:∀b,v.ownBlock=some b→B≤b:=fun b hb=>(HA.o.1.lt b hb).1;go_enter func179,ntmps179
 go_upto_region 1 with (fail)
 obtain ⟨w0,e_1,k0,r0⟩:=bx1 w 25 [.bool g,.slice a n c];rw [e_1];clear e_1;have H0:=jJ (aI k0 r0);clear k0 r0;go_upto_region 2 with (at_builtin;go_loud (refine wpList_byte _ rfl _ _ 211 5 rfl i1 underlying211 HI.o.1 HI.o.2.1 HI.o.2.2.1 HI.o.2.2.2 B v l rfl (HA.o.1.keepNil (H0.o.1.trans (c:=w0.alloc (.cells #[.int .u8 58] 5)) kOf)) w0.heap.size 58 rfl aC.alloc (by have:=HA.o.2.2.1;omega) (bZ1 hB (H0.o.1.trans (c:=w0.alloc (.cells #[.int .u8 58] 5)) kOf).size) ?_;intro v1 w1 hp;have r1:=(H0.o.2.keep (M:=Nil) (w':=w0.alloc (.cells #[.int .u8 58] 5)) kOf id).keep hp.keep ((HA.o.1.keepNil (H0.o.1.trans (c:=w0.alloc (.cells #[.int .u8 58] 5)) kOf)).ne (H0.o.2.keep (M:=Nil) (w':=w0.alloc (.cells #[.int .u8 58] 5)) kOf id) (by decide));have hp1:Put B 5 w v w1 v1 (l++[58]):=(Put.start HA.o.1 (H0.o.1.trans (c:=w0.alloc (.cells #[.int .u8 58] 5)) kOf)).trans hp;obtain ⟨c0,c1,-,-⟩:=r1.two;have H1:=jJ (aI hp1 r1);clear hp hp1 r1))
 go_upto_if 11 with (fail)
 go_cut [0] (fun u wx=>Put B 5 w v wx u (l++58::(if neg z then [45] else []))∧aC wx w.heap.size 25 [.bool g,.slice a n c])
 case first=>
  cases g
  ·go_wp2_with fail
   go_meet
   have e:neg z=false:=HG.o.symm;exact⟨by rw [e];exact H1.o.1,H1.o.2⟩
  ·go_wp2_with (at_builtin;go_loud (refine wpList_byte _ rfl _ _ 211 5 rfl i1 underlying211 HI.o.1 HI.o.2.1 HI.o.2.2.1 HI.o.2.2.2 B v1 (l++[58]) rfl (H1.o.1.own.keepNil (w':=w1.alloc (.cells #[.int .u8 45] 5)) kOf) w1.heap.size 45 rfl aC.alloc (by have:=HA.o.2.2.1;rw [aZ1];simp only [gZ1,gZ2];omega) (bZ1 hB (bZ1 H1.o.1.keep.size (by simp))) ?_;intro v2 w2 hp;have r2:=(H1.o.2.keep (M:=Nil) (w':=w1.alloc (.cells #[.int .u8 45] 5)) kOf id).keep hp.keep ((H1.o.1.own.keepNil (w':=w1.alloc (.cells #[.int .u8 45] 5)) kOf).ne (H1.o.2.keep (M:=Nil) (w':=w1.alloc (.cells #[.int .u8 45] 5)) kOf id) (by decide));have hp2:Put B 5 w v w2 v2 (l++[58]++[45]):=(H1.o.1.more (w2:=w1.alloc (.cells #[.int .u8 45] 5)) kOf).trans hp;have H2:=jJ (aI hp2 r2);clear hp hp2 r2))
   go_meet
   have e:neg z=true:=HG.o.symm;exact⟨by rw [e];have:=H2.o.1;rw [mZ2] at this;exact this,H2.o.2⟩
 case rest=>
  rename World=>wx;obtain ⟨hpx,rx⟩:=hcut;obtain ⟨d0,d1,-,-⟩:=rx.two;obtain ⟨pre,hpre⟩:∃p,p=l++58::(if neg z then [45] else []):=⟨_,rfl⟩;rw [←hpre] at hpx;have hpl:pre.length≤l.length+2:=by rw [hpre,aZ1,gZ1];split<;>simp
  have hzx:=hpx.zn hob hB HA.o.2.1;have hcap:=hzx.2.sl.cap;have hle:=hzx.2.sl.le;have HX:=jJ (aI4 hpx hpl hzx hpre);obtain ⟨L,hL⟩:∃L,L=bD z.natAbs:=⟨_,rfl⟩;have hLn:L.length=n:=by rw [hL];exact hzx.2.len
  have hLx:=HA.o.2.1.2;rw [←hL] at hLx;have HLX:=jJ (aI3 hL hLn hLx);clear hpx rx hpl hzx c0 c1 hpre hL hLn hLx;go_wp2_with fail
  go_loopw [0,18] (fun u i wr=>∃k:Nat,i=.int .i64 k∧k≤n∧Put B 5 w v wr u (pre++magTxt (L.take k))) (fun _ i _=>n-(intOf i).toNat)
  case atStart=>exact⟨0,rfl,aZ2 _,by rw [List.take_zero,show magTxt []=[] from rfl,fZ2];exact HX.o.1⟩
  case round=>
   obtain ⟨k,rfl,hk,hput⟩:=hrel;have hlen:(pre++magTxt (L.take k)).length≤l.length+2+29*k:=by
    have h1:=length_magTxt (L.take k) fun x hx=>HLX.o.2.2.lt x (bZ3 hx);rw [aZ1];have h2:=HX.o.2.1;have h3:(L.take k).length≤k:=by rw [iZ1];exact Nat.min_le_left _ _
    omega
   have hroom:l.length+2+29*n+2≤70368744177600:=by have h1:=HA.o.2.2;omega
   obtain ⟨txt,htxt⟩:∃t,t=pre++magTxt (L.take k):=⟨_,rfl⟩;rw [←htxt] at hput hlen;have hBr:B≤wr.heap.size:=bZ1 hB hput.keep.size;have HK:=jJ (aI4 hput hlen hroom htxt);clear hput hlen hroom htxt;by_cases hkn:k<n
   ·have hLr:=HLX.o.2.2.move HK.o.1.keep (M2:=From B) (fun b _ hb=>hob b hb) fun _ _ h=>h;obtain ⟨b,off,rfl,hb,hnb,hc⟩:=hLr.cell hkn;have hx32:lim L k<4294967296:=by
     have h1:k<L.length:=by rw [HLX.o.2.1];exact hkn
     rw [show lim L k=L[k] by simp [lim,List.getD,h1]];exact HLX.o.2.2.lt _ (List.getElem_mem h1)
    have htk:L.take (k+1)=L.take k++[lim L k]:=by
     have h1:k<L.length:=by rw [HLX.o.2.1];exact hkn
     rw [List.take_succ_eq_append_getElem h1,show lim L k=L[k] by simp [lim,List.getD,h1]]
    have HT:=jJ htk;clear hLr htk;generalize lim L k=x at *
    go_wp2_with (first|(at_builtin;go_loud (refine wpList_byte _ rfl _ _ 211 5 rfl i1 underlying211 HI.o.1 HI.o.2.1 HI.o.2.2.1 HI.o.2.2.2 B _ txt rfl (HK.o.1.own.keepNil (w':=wr.alloc (.cells #[.int .u8 32] 5)) kOf) wr.heap.size 32 rfl aC.alloc (by have h1:=HK.o.2.1;have h2:=HK.o.2.2.1;omega) (bZ1 hBr (by simp)) ?_;intro v2 w2 hp;have hp2:=(HK.o.1.more (w2:=wr.alloc (.cells #[.int .u8 32] 5)) kOf).trans hp;have H2:=jJ hp2;clear hp hp2))|(go_at_call 205;go_loud (refine (appendUint_any x (by omega) H2.o.own (bZ1 hB H2.o.keep.size) (by rw [aZ1];have h1:=HK.o.2.1;have h2:=HK.o.2.2.1;simp only [gZ1,gZ2];omega)).mono ?_;rintro e w3 ⟨v3,rfl,ho3⟩;have hp3:Put B 5 w v w3 v3 (txt++[32]++d36 x):=H2.o.trans ho3;have H3:=jJ hp3;clear ho3 hp3)))
    go_roundw
    case rel=>
     refine ⟨k+1,by go_num,hkn,?_⟩;rw [HT.o,magTxt_snoc,←mZ2,←HK.o.2.2.2,show (32::d36 x:List Nat)=[32]++d36 x from rfl,←mZ2];exact H3.o
    case measure=>simp [intOf];omega
   ·have ekn:n=k:=by omega
    go_wp2_with (at_builtin;go_loud (refine wpList_byte _ rfl _ _ 211 5 rfl i1 underlying211 HI.o.1 HI.o.2.1 HI.o.2.2.1 HI.o.2.2.2 B _ txt rfl (HK.o.1.own.keepNil (w':=wr.alloc (.cells #[.int .u8 59] 5)) kOf) wr.heap.size 59 rfl aC.alloc (by have h1:=HK.o.2.1;have h2:=HK.o.2.2.1;omega) (bZ1 hBr (by simp)) ?_;intro v2 w2 hp;have hp2:=(HK.o.1.more (w2:=wr.alloc (.cells #[.int .u8 59] 5)) kOf).trans hp;have H2:=jJ hp2;clear hp hp2))
    go_ret
    refine ⟨_,rfl,?_⟩;have h1:=H2.o;rw [HK.o.2.2.2,HX.o.2.2.2,eZ1 (by rw [HLX.o.2.1];omega),HLX.o.1] at h1;rw [dS];simpa using h1
def nats (l:List UInt8):List Nat:=l.map (·.toNat)
def decN (u:Nat):List Nat:=nats (Lib.decDigits u)
def bC (i:Int):List Nat:=nats (Lib.itoa i)
theorem nats_byteV (l:List UInt8):(nats l).map byteV=l.map fun b=>Value.int .u8 (b.toNat:Int):=by simp [nats,byteV]
theorem strCells_nats (l:List UInt8):Lib.strCells ⟨l.toArray⟩=(nats l).map byteV:=by rw [nats_byteV,Lib.strCells]
theorem OwnB.notNil {w:World} {B:Nat} {E:TypeId} {v:Value} {l:List Nat} (h:OwnB w B E v l) (hl:l≠[]):v≠.slice none 0 0:=fun e=>by
 rcases h with ⟨-,rfl⟩|⟨g,cap,cur,fz,rfl,-⟩
 ·exact hl rfl
 ·cases e
theorem keeps_grow (w:World) (k:Nat) (os:Array Obj):aA Nil w («Sort».grow (w.drewN k) os):=by
 refine ⟨rfl,rfl,rfl,by simp [«Sort».grow],fun j hj _=>?_⟩;show (w.heap++os)[j]?=w.heap[j]?
 rw [Array.getElem?_append_left hj]
theorem below_of {M:Nat→Prop} {w w':World} {B:Nat} (k:aA M w w') (hM:∀b,M b→B≤b) (hB:B≤w.heap.size):Below B w w':=by
 exact⟨k.os,k.tape,k.output,k.size,fun j hj=>k.block j (cZ1 hj hB) fun h=>by have:=hM j h;omega⟩
theorem length_decN {u:Nat} (h:u<18446744073709551616):(decN u).length≤20:=by
 rw [decN,nats,hZ1,Lib.decDigits_length];rcases Nat.eq_zero_or_pos u with rfl|h0
 ·rw [Lib.nDigits_small (by omega)];omega
 ·have:=Lib.numDigits_eq u h0 h;split at this<;>omega
section
variable {l:List Nat} {w:World} {v:Value} {B:Nat}
theorem appendU10_small (u:Nat) (hu:u<100) (h:OwnB w B 5 v l) (hB:B≤w.heap.size) (hl:l.length≤70368744177664) (h0:l≠[]) :
  Calls prog 227 #[v,.int .u64 (u:Int),.int .i64 10] w fun e w'=>∃v',e=.returned v'∧Put B 5 w v w' v' (l++decN u):=by
 have HH:=jJ (aI3 h hl h0);clear h hl h0;obtain ⟨i1,hi1⟩:=info_parts info_byte;have HI:=jJ hi1;clear hi1;have hlen:=length_decN (u:=u) (by omega);go_enter func227,ntmps227
 go_wp2_with (first
  | (go_at_call 240;refine (Tryz.internal_strconv_small u hu _).mono ?_;rintro e w' ⟨rfl,rfl⟩)
  | (at_builtin;refine wpList_bytes_str _ rfl _ _ 211 9 5 rfl i1 underlying211 underlying9 HI.o.1 HI.o.2.1 HI.o.2.2.1 HI.o.2.2.2 B v l rfl HH.o.1 ⟨(Lib.decDigits u).toArray⟩ (decN u) rfl (strCells_nats _) (by have h1:=HH.o.2.1;omega) hB (HH.o.1.notNil HH.o.2.2) ?_;intro v2 w2 hp;have HP:=jJ hp;clear hp))
 go_ret
 exact⟨_,rfl,HP.o⟩
theorem appendU10_big (u:Nat) (hu:100≤u) (hu64:u<18446744073709551616) (h:OwnB w B 5 v l) (hB:B≤w.heap.size) (hl:l.length≤70368744177664) (htab:Lib.TabIs prog w "internal/strconv.uint64pow10" .u64 Lib.pow10Tab) :
  Calls prog 227 #[v,.int .u64 (u:Int),.int .i64 10] w fun e w'=>∃v',e=.returned v'∧Put B 5 w v w' v' (l++decN u):=by
 have HH:=jJ (aI h hl);clear h hl;obtain ⟨i1,hi1⟩:=info_parts info_byte;have HI:=jJ hi1;clear hi1;have hu1:1≤u:=by omega
 have hlen:=length_decN hu64;have hdl:(decN u).length=Lib.nDigits u:=by rw [decN,nats,hZ1,Lib.decDigits_length]
 have hnd:Lib.nDigits u≤20:=by omega
 have hal:prog.arrayLen 254=24:=by simp [Program.arrayLen,underlying254]
 have hsl:∀W,(Instr.sliceAt 254 (.pointer (some ⟨w.heap.size,0,none⟩)) none (some (.int .i64 (Lib.nDigits u:Int))) none).run prog W=.ok (.slice (some ⟨w.heap.size,0,none⟩) (Lib.nDigits u) 24) W:=fun W=>by
  rw [run_sliceAt_array_h W 254 ⟨w.heap.size,0,none⟩ (by simp [Program.arrayLen,Program.elem,underlying254]) .i64 (Lib.nDigits u:Int) (by omega) (by rw [hal];omega)];go_simp
 have hH0:=Lib.holds_zero0 w 254 (Lib.nDigits u) (by omega);have hfmt:=Tryz.internal_strconv_formatBase10 w.heap.size 0 24 u (Array.replicate (Lib.nDigits u) 0) (w.alloc (.cells Lib.zeros24 254)) hH0 (by rw [Array.size_replicate];exact Lib.lt_pow_nDigits u) hu64 (by rw [Array.size_replicate];omega);rw [Array.size_replicate] at hfmt;have HF:=jJ (aI4 hH0 hfmt htab hdl);have iu:(100:Int)≤(u:Int):=by omega
 clear hH0 hal hfmt htab hdl;go_enter func227,ntmps227
 go_wp2_with (first
  | (go_at_call 241;refine (Tryz.internal_strconv_numDigits u hu1 hu64 _ (Lib.tabIs_alloc HF.o.2.2.1 _)).mono ?_;rintro e w' ⟨rfl,rfl⟩))
 go_at_call 242
 refine HF.o.2.1.mono ?_;rintro e w' ⟨rfl,k,v',dk,rfl,hF⟩;have hcells:∀j u',((decN u).map byteV)[j]?=some u'→((«Sort».putRow (fun (b:UInt8)=>Value.int .u8 (b.toNat:Int)) (w.alloc (.cells Lib.zeros24 254)) w.heap.size 0 dk).drewN k).cell? ((⟨w.heap.size,0,none⟩:Addr).add j)=some u':=by
  intro j u' hj;rw [decN,nats_byteV] at hj;have hjl:j<(Lib.decDigits u).length:=by
   have h5:=(List.getElem?_eq_some_iff.1 hj).1;rwa [hZ1] at h5
  have e5:((Lib.decDigits u).map fun b=>Value.int .u8 (b.toNat:Int))[j]?=some (Value.int .u8 ((Lib.decDigits u)[j].toNat:Int)):=by simp [hjl]
  rw [e5] at hj;cases hj;rw [Lib.row_is_numeral hF j hjl,Lib.add_plain,World.cell?_drewN];exact «Sort».cell?_putRow (fun (b:UInt8)=>Value.int .u8 (b.toNat:Int)) _ w.heap.size 0 _ dk HF.o.1 (by rw [hF.size,Array.size_replicate]) j (by rw [hF.size];rw [Lib.decDigits_length] at hjl;exact hjl)
 obtain ⟨os,eo⟩:=Lib.fin_at w (.cells Lib.zeros24 254) dk k 0;have hkk:aA Nil w ((«Sort».putRow (fun (b:UInt8)=>Value.int .u8 (b.toNat:Int)) (w.alloc (.cells Lib.zeros24 254)) w.heap.size 0 dk).drewN k):=by rw [eo];exact keeps_grow w k os
 generalize («Sort».putRow (fun (b:UInt8)=>Value.int .u8 (b.toNat:Int)) (w.alloc (.cells Lib.zeros24 254)) w.heap.size 0 dk).drewN k=W2 at hcells hkk⊢;have HZ:=jJ (aI hcells hkk);clear eo hcells hkk;go_wp2_with (at_builtin;refine wpList_bytes _ rfl _ _ 211 5 rfl i1 underlying211 HI.o.1 HI.o.2.1 HI.o.2.2.1 HI.o.2.2.2 B v l rfl (HH.o.1.keepNil HZ.o.2) ⟨w.heap.size,0,none⟩ 24 (Lib.nDigits u) (decN u) rfl HF.o.2.2.2 HZ.o.1 (by have h1:=HH.o.2;omega) (bZ1 hB HZ.o.2.size) ?_;intro v2 w3 hp;have HP:=jJ ((Put.start HH.o.1 HZ.o.2).trans hp);clear hp)
 go_ret
 exact⟨_,rfl,HP.o⟩
theorem appendU10_any (u:Nat) (hu64:u<18446744073709551616) (h:OwnB w B 5 v l) (hB:B≤w.heap.size) (hl:l.length≤70368744177664) (h0:l≠[]) (htab:Lib.TabIs prog w "internal/strconv.uint64pow10" .u64 Lib.pow10Tab) :
  Calls prog 227 #[v,.int .u64 (u:Int),.int .i64 10] w fun e w'=>∃v',e=.returned v'∧Put B 5 w v w' v' (l++decN u):=by
 by_cases hu:u<100
 ·exact appendU10_small u hu h hB hl h0
 ·exact appendU10_big u (by omega) hu64 h hB hl htab
theorem iappendI_any (i:Int) (hi0:-9223372036854775808≤i) (hi1:i≤9223372036854775807) (h:OwnB w B 5 v l) (hB:B≤w.heap.size) (hl:l.length≤70368744177663) (h0:l≠[]) (htab:Lib.TabBelow prog B w "internal/strconv.uint64pow10" .u64 Lib.pow10Tab) :
  Calls prog 206 #[v,.int .i64 i,.int .i64 10] w fun e w'=>∃v',e=.returned v'∧Put B 5 w v w' v' (l++bC i):=by
 have HH:=jJ (aI4 h hl h0 htab);clear h hl h0 htab;obtain ⟨i1,hi1'⟩:=info_parts info_byte;have HI:=jJ hi1';clear hi1';by_cases hneg:i<0
 ·have e1:bC i=[45]++decN i.natAbs:=by rw [bC,Lib.itoa,if_pos hneg];rfl
  have E1:=jJ e1;clear e1;go_enter func206,ntmps206
  go_wp2_with (at_builtin;go_loud (refine wpList_byte _ rfl _ _ 211 5 rfl i1 underlying211 HI.o.1 HI.o.2.1 HI.o.2.2.1 HI.o.2.2.2 B v l rfl (HH.o.1.keepNil (w':=w.alloc (.cells #[.int .u8 45] 5)) kOf) w.heap.size 45 rfl aC.alloc HH.o.2.1 (bZ1 hB (by simp)) ?_;intro v1 w1 hp;have hp1:=(Put.start HH.o.1 (w1:=w.alloc (.cells #[.int .u8 45] 5)) kOf).trans hp;have H1:=jJ hp1;clear hp hp1))
  have hw:IntKind.u64.wrap (-IntKind.u64.wrap i)=(i.natAbs:Int):=by
   simp only [IntKind.wrap,IntKind.bits,IntKind.signed,Bool.false_and,Bool.false_eq_true,if_false];omega
  rw [hw];refine (appendU10_any (w:=w1) i.natAbs (by omega) H1.o.own (bZ1 hB H1.o.keep.size) (by rw [aZ1];have:=HH.o.2.1;simp;omega) (by simp) (HH.o.2.2.2.on (below_of H1.o.keep (fun b hb=>(HH.o.1.lt b hb).1) hB)).here).mono ?_;rintro e w2 ⟨v2,rfl,hp2⟩;have hp3:=H1.o.trans hp2;rw [mZ2,←E1.out] at hp3;go_wp2
  go_ret
  exact⟨_,rfl,hp3⟩
 ·have e1:bC i=decN i.toNat:=by rw [bC,Lib.itoa,if_neg hneg];rfl
  have E1:=jJ e1;clear e1;have hcall:=appendU10_any (w:=w) i.toNat (by omega) HH.o.1 hB (by have:=HH.o.2.1;omega) HH.o.2.2.1 HH.o.2.2.2.here;rw [show ((i.toNat:Nat):Int)=i by omega,←E1.out] at hcall;have HC:=jJ hcall;clear hcall;go_enter func206,ntmps206
  go_wp2_with (go_at_call 227;refine HC.o.mono ?_;rintro e w1 ⟨v1,rfl,hp⟩)
  go_ret
  exact⟨_,rfl,hp⟩
theorem appendI_any (i:Int) (hi0:-9223372036854775808≤i) (hi1:i≤9223372036854775807) (h:OwnB w B 5 v l) (hB:B≤w.heap.size) (hl:l.length≤70368744177663) (h0:l≠[]) (htab:Lib.TabBelow prog B w "internal/strconv.uint64pow10" .u64 Lib.pow10Tab) :
  Calls prog 180 #[v,.int .i64 i,.int .i64 10] w fun e w'=>∃v',e=.returned v'∧Put B 5 w v w' v' (l++bC i):=by
 have HC:=jJ (iappendI_any i hi0 hi1 h hB hl h0 htab);clear h hl h0 htab;go_enter func180,ntmps180
 go_wp2_with (go_at_call 206;refine HC.o.mono ?_;rintro e w1 ⟨v1,rfl,hp⟩)
 go_ret
 exact⟨_,rfl,hp⟩
end
section
variable {a:Option Addr} {M:Nat→Prop} {l:List Int} {w:World} {n c i:Nat}
structure aS where
 kind:Int
 d:Int
 t:aW
 var:Int
 kids:List Int
def RI (cs:List Value) (x:Int):Prop:=cs=[.int .i64 x]
def cB (M:Nat→Prop) (w:World) (a:Option Addr) (n c:Nat) (l:List Int):Prop:=SlOf M w 1 RI 0 a n c l
theorem cB.keepNil {w':World} (h:cB M w a n c l) (k:aA Nil w w'):cB M w' a n c l:=SlOf.move h k (fun _ _ h=>h.elim) (fun _ _=>id) fun _ _ h=>h
structure NodeAt (M:Nat→Prop) (w:World) (gd:Bool) (ad:Option Addr) (nd cd:Nat) (ap:Option Addr) (np cp:Nat) (gk:Bool) (ak:Option Addr) (nk ck:Nat) (aq:Option Addr) (nq cq:Nat) (N:aS):Prop where
 d:ZN M w gd ad nd cd N.d
 t:dZ M w ap np cp gk ak nk ck N.t
 kids:cB M w aq nq cq N.kids
theorem aZ (h:cB M w a n c l) (hi:i<n):∃b off,a=some ⟨b,off,none⟩∧w.cell? ⟨b,off+i,none⟩=some (.int .i64 (l.getD i 0)):=by
 obtain ⟨f,hs,hr⟩:=h.ex;obtain ⟨b,off,rfl,hb,hn,hc⟩:=hs.at (by omega);refine ⟨b,off,rfl,?_⟩;have h1:=hc i 0 hi (by omega);obtain ⟨h2,h3⟩:=hr i hi;rw [Nat.mul_one,Nat.add_zero] at h1;rw [h1,show (f i)=[.int .i64 (l.getD i 0)] from h3];rfl
def strOf (l:List Nat):ByteArray:=⟨(l.map UInt8.ofNat).toArray⟩
theorem strOf_nats (l:List UInt8):strOf (nats l)=⟨l.toArray⟩:=by
 unfold strOf nats;rw [List.map_map];congr 2;conv=>rhs;rw [←List.map_id l]
 exact List.map_congr_left fun x _=>by simp
theorem bI (l m:List Nat):strOf l++strOf m=strOf (l++m):=by
 apply ByteArray.ext;simp [strOf,ByteArray.data_append]
theorem aQ (l:List Nat):(strOf l).size=l.length:=by simp [strOf,ByteArray.size]
theorem bJ {i:Int} (h0:-9223372036854775808≤i) (h1:i≤9223372036854775807):(bC i).length≤21:=by
 rw [bC,Lib.itoa];split
 ·have:=length_decN (u:=i.natAbs) (by omega);rw [decN] at this;simp only [nats,dZ2,gZ1] at this⊢;omega
 ·have:=length_decN (u:=i.toNat) (by omega);rw [decN] at this;omega
def cA (l:aT):List Nat:=l.flatMap fun p=>bC p.1++dS p.2
def cJ (l:List Int):List Nat:=l.flatMap fun k=>bC k++[44]
theorem kidsTxt_snoc (l:List Int) (x:Int):cJ (l++[x])=cJ l++(bC x++[44]):=by simp [cJ]
theorem length_kidsTxt:∀(l:List Int),(∀x∈l,-9223372036854775808≤x∧x≤9223372036854775807)→(cJ l).length≤22*l.length
 | [],_=>by simp [cJ]
 | x::l,h=>by
  have h1:=length_kidsTxt l fun y hy=>h y (lZ1 _ hy);have h2:=bJ (h x (kZ1 ..)).1 (h x (kZ1 ..)).2;rw [show cJ (x::l)=(bC x++[44])++cJ l from rfl,aZ1,aZ1,gZ1];simp only [gZ1,gZ2];omega
def bA (N:aS):List Nat:=bC N.kind++[32]++(if N.kind=2∨N.kind=3∨N.kind=4 then dS N.d++dS N.t.k++cA N.t.parts else (if N.kind=7∨N.kind=8 then bC N.var++[58] else [])++cJ N.kids)
def I64 (v:Int):Prop:=-9223372036854775808≤v∧v≤9223372036854775807
end
section
variable {M:Nat→Prop} {w w':World} {B cd np cp nk ck nq cq:Nat} {v d z n:Int} {l:aT} {gd gk:Bool} {ad ap ak aq:Option Addr}
def Tab (B:Nat) (w:World):Prop:=B≤w.heap.size∧Lib.TabBelow prog B w "internal/strconv.uint64pow10" .u64 Lib.pow10Tab
theorem Tab.keep (h:Tab B w) (k:aA M w w') (hM:∀b,M b→B≤b):Tab B w':=⟨bZ1 h.1 k.size,h.2.on (below_of k hM h.1)⟩
theorem Tab.keepNil (h:Tab B w) (k:aA Nil w w'):Tab B w':=h.keep k fun _ h=>h.elim
theorem itoa_any (hn:I64 n) (h:Tab B w):Calls prog 178 #[.int .i64 n] w fun e w'=>e=.returned (.string (strOf (bC n)))∧aA Nil w w':=by
 refine (Tryz.strconv_Itoa n hn.1 hn.2 w h.2.here).mono ?_;rintro e w' ⟨rfl,k,os,rfl⟩;exact⟨by rw [bC,strOf_nats],keeps_grow w k os⟩
theorem key5 {nd:Nat} {q:List Int} (hT:Tab B w) (h:NodeAt M w gd ad nd cd ap np cp gk ak nk ck aq nq cq ⟨5,d,⟨l,z⟩,v,q⟩) (hv:I64 v) (hq:∀x∈q,I64 x) (hn:nq≤16777216) :
  Calls prog 127 #[.agg #[.int .i64 5,.bool gd,.slice ad nd cd,.slice ap np cp,.bool gk,.slice ak nk ck,.int .i64 v,.slice aq nq cq]] w fun e w'=>e=.returned (.string (strOf (bA ⟨5,d,⟨l,z⟩,v,q⟩)))∧aA Nil w w':=by
 have hkt:bA ⟨5,d,⟨l,z⟩,v,q⟩=bC 5++[32]++cJ q:=by
  unfold bA;simp only;rw [if_neg (by omega),if_neg (by omega),fZ3]
 have hkI:I64 5:=by unfold I64;omega
 have hkd:=h.kids;have HA:=jJ (aI6 hT hkd hkI hv hq hkt);clear hT h hkI hv hq hkt hkd;go_enter func127,ntmps127
 go_upto_region 1 with (fail)
 obtain ⟨w0,e_1,k0,r0⟩:=bx1 w 59 [.int .i64 5,.bool gd,.slice ad nd cd,.slice ap np cp,.bool gk,.slice ak nk ck,.int .i64 v,.slice aq nq cq];rw [e_1];clear e_1;have H0:=jJ (aI k0 r0);have c0:w0.cell? ⟨w.heap.size,0,none⟩=some (.int .i64 5):=r0.cell 0;have hs0:(strOf (bC 5)).size≤21:=by rw [aQ];exact bJ HA.o.2.2.1.1 HA.o.2.2.1.2
 clear k0 r0;go_upto_region 2 with (go_at_call 178;refine (itoa_any HA.o.2.2.1 (HA.o.1.keepNil H0.o.1)).mono ?_;rintro e w1 ⟨rfl,hk1⟩;have r1:=H0.o.2.keep hk1 id;have d0:w1.cell? ⟨w.heap.size,0,none⟩=some (.int .i64 5):=r1.cell 0;have d6:w1.cell? ⟨w.heap.size,6,none⟩=some (.int .i64 v):=r1.cell 6;have d7:w1.cell? ⟨w.heap.size,7,none⟩=some (.slice aq nq cq):=r1.cell 7;have H1:=jJ (aI hk1 r1);clear hk1 r1)
 rw [show strOf (bC 5)++(⟨#[32]⟩:ByteArray)=strOf (bC 5++[32]) from bI _ [32]];obtain ⟨t0,ht0⟩:∃t,t=bC 5++[32]:=⟨_,rfl⟩;rw [←ht0];have hs1:(strOf t0).size≤22:=by rw [aQ,ht0,aZ1];rw [aQ] at hs0;simp;omega
 have HT0:=jJ ht0;have hs2:(strOf (bC v)).size≤21:=by rw [aQ];exact bJ HA.o.2.2.2.1.1 HA.o.2.2.2.1.2
 clear ht0 hs0 c0;go_upto_region 17 with fail
 obtain ⟨t1,ht1⟩:∃t,t=t0:=⟨_,rfl⟩;rw [←ht1];rw [HT0.o] at ht1;have hs4:(strOf t1).size≤44:=by rw [ht1,←HT0.o];omega
 clear hs1 hs2 d0 d6;have kw:aA Nil w w1:=H0.o.1.trans H1.o.1;have HT1:=jJ (aI ht1 kw);have hkd:=HA.o.2.1.keepNil kw;have hle:=(hkd.ex.elim fun f h=>h.1.le);have hcap:=(hkd.ex.elim fun f h=>h.1.cap);have hlen:q.length=nq:=SlOf.len hkd;have HKD:=jJ (aI hkd hlen);clear ht1 kw hkd hlen;go_wp2_with fail
 go_loopw [3,59] (fun u i wr=>∃n:Nat,i=.int .i64 n∧n≤nq∧u=.string (strOf (t1++cJ (q.take n)))∧aA Nil w1 wr) (fun _ i _=>nq-(intOf i).toNat)
 case atStart=>exact⟨0,rfl,aZ2 _,by rw [List.take_zero,show cJ []=[] from rfl,fZ2],aA.refl _ _⟩
 case round=>
  obtain ⟨n,rfl,hn1,rfl,hkr⟩:=hrel;have hsz:(strOf (t1++cJ (q.take n))).size≤44+22*n:=by
   rw [aQ,aZ1];rw [aQ] at hs4;have h1:=length_kidsTxt (q.take n) fun x hx=>HA.o.r4.1 x (bZ3 hx);have h2:(q.take n).length≤n:=by rw [iZ1];exact Nat.min_le_left _ _
   omega
  obtain ⟨t2,ht2⟩:∃t,t=t1++cJ (q.take n):=⟨_,rfl⟩;rw [←ht2] at hsz⊢;have HK:=jJ (aI ht2 hkr);clear ht2 hkr;by_cases hnq:n<nq
  ·have hkd2:=HKD.o.1.keepNil HK.o.2;obtain ⟨bq,oq,rfl,hcell⟩:=aZ hkd2 hnq;have htk:q.take (n+1)=q.take n++[q.getD n 0]:=by
    have h1:n<q.length:=by rw [HKD.o.2];exact hnq
    rw [List.take_succ_eq_append_getElem h1];simp [List.getD,h1]
   have hx:I64 (q.getD n 0):=HA.o.r4.1 _ (by
    have h1:n<q.length:=by rw [HKD.o.2];exact hnq
    simp [List.getD,h1])
   have HX:=jJ (aI htk hx);clear htk hkd2;generalize q.getD n 0=x at *
   have hs5:(strOf (bC x)).size≤21:=by rw [aQ];exact bJ hx.1 hx.2
   clear hx;have hs6:(strOf (bC x++[44])).size≤22:=by rw [aQ,aZ1];rw [aQ] at hs5;simp;omega
   have he6:strOf (bC x)++(⟨#[44]⟩:ByteArray)=strOf (bC x++[44]):=bI _ [44];go_wp2_with (go_at_call 178;refine (itoa_any HX.o.2 ((HA.o.1.keepNil HT1.o.2).keepNil HK.o.2)).mono ?_;rintro e w3 ⟨rfl,hk3⟩;have H3:=jJ hk3;clear hk3)
   go_roundw
   case rel=>
    refine ⟨n+1,by go_num,hnq,?_,HK.o.2.trans H3.o⟩;rw [HX.o.1,kidsTxt_snoc,←mZ2,←HK.o.1];first|rw [he6,bI]|rw [bI]
   case measure=>simp [intOf];omega
  ·have en:nq=n:=by omega
   go_wp2_with fail
   go_ret
   refine ⟨?_,HT1.o.2.trans HK.o.2⟩;rw [HA.o.r5,←HT1.o.1,HK.o.1,eZ1 (by rw [HKD.o.2];omega)];rfl
theorem key6 {nd:Nat} {q:List Int} (hT:Tab B w) (h:NodeAt M w gd ad nd cd ap np cp gk ak nk ck aq nq cq ⟨6,d,⟨l,z⟩,v,q⟩) (hv:I64 v) (hq:∀x∈q,I64 x) (hn:nq≤16777216) :
  Calls prog 127 #[.agg #[.int .i64 6,.bool gd,.slice ad nd cd,.slice ap np cp,.bool gk,.slice ak nk ck,.int .i64 v,.slice aq nq cq]] w fun e w'=>e=.returned (.string (strOf (bA ⟨6,d,⟨l,z⟩,v,q⟩)))∧aA Nil w w':=by
 have hkt:bA ⟨6,d,⟨l,z⟩,v,q⟩=bC 6++[32]++cJ q:=by
  unfold bA;simp only;rw [if_neg (by omega),if_neg (by omega),fZ3]
 have hkI:I64 6:=by unfold I64;omega
 have hkd:=h.kids;have HA:=jJ (aI6 hT hkd hkI hv hq hkt);clear hT h hkI hv hq hkt hkd;go_enter func127,ntmps127
 go_upto_region 1 with (fail)
 obtain ⟨w0,e_2,k0,r0⟩:=bx1 w 59 [.int .i64 6,.bool gd,.slice ad nd cd,.slice ap np cp,.bool gk,.slice ak nk ck,.int .i64 v,.slice aq nq cq];rw [e_2];clear e_2;have H0:=jJ (aI k0 r0);have c0:w0.cell? ⟨w.heap.size,0,none⟩=some (.int .i64 6):=r0.cell 0;have hs0:(strOf (bC 6)).size≤21:=by rw [aQ];exact bJ HA.o.2.2.1.1 HA.o.2.2.1.2
 clear k0 r0;go_upto_region 2 with (go_at_call 178;refine (itoa_any HA.o.2.2.1 (HA.o.1.keepNil H0.o.1)).mono ?_;rintro e w1 ⟨rfl,hk1⟩;have r1:=H0.o.2.keep hk1 id;have d0:w1.cell? ⟨w.heap.size,0,none⟩=some (.int .i64 6):=r1.cell 0;have d6:w1.cell? ⟨w.heap.size,6,none⟩=some (.int .i64 v):=r1.cell 6;have d7:w1.cell? ⟨w.heap.size,7,none⟩=some (.slice aq nq cq):=r1.cell 7;have H1:=jJ (aI hk1 r1);clear hk1 r1)
 rw [show strOf (bC 6)++(⟨#[32]⟩:ByteArray)=strOf (bC 6++[32]) from bI _ [32]];obtain ⟨t0,ht0⟩:∃t,t=bC 6++[32]:=⟨_,rfl⟩;rw [←ht0];have hs1:(strOf t0).size≤22:=by rw [aQ,ht0,aZ1];rw [aQ] at hs0;simp;omega
 have HT0:=jJ ht0;have hs2:(strOf (bC v)).size≤21:=by rw [aQ];exact bJ HA.o.2.2.2.1.1 HA.o.2.2.2.1.2
 clear ht0 hs0 c0;go_upto_region 17 with fail
 obtain ⟨t1,ht1⟩:∃t,t=t0:=⟨_,rfl⟩;rw [←ht1];rw [HT0.o] at ht1;have hs4:(strOf t1).size≤44:=by rw [ht1,←HT0.o];omega
 clear hs1 hs2 d0 d6;have kw:aA Nil w w1:=H0.o.1.trans H1.o.1;have HT1:=jJ (aI ht1 kw);have hkd:=HA.o.2.1.keepNil kw;have hle:=(hkd.ex.elim fun f h=>h.1.le);have hcap:=(hkd.ex.elim fun f h=>h.1.cap);have hlen:q.length=nq:=SlOf.len hkd;have HKD:=jJ (aI hkd hlen);clear ht1 kw hkd hlen;go_wp2_with fail
 go_loopw [3,59] (fun u i wr=>∃n:Nat,i=.int .i64 n∧n≤nq∧u=.string (strOf (t1++cJ (q.take n)))∧aA Nil w1 wr) (fun _ i _=>nq-(intOf i).toNat)
 case atStart=>exact⟨0,rfl,aZ2 _,by rw [List.take_zero,show cJ []=[] from rfl,fZ2],aA.refl _ _⟩
 case round=>
  obtain ⟨n,rfl,hn1,rfl,hkr⟩:=hrel;have hsz:(strOf (t1++cJ (q.take n))).size≤44+22*n:=by
   rw [aQ,aZ1];rw [aQ] at hs4;have h1:=length_kidsTxt (q.take n) fun x hx=>HA.o.r4.1 x (bZ3 hx);have h2:(q.take n).length≤n:=by rw [iZ1];exact Nat.min_le_left _ _
   omega
  obtain ⟨t2,ht2⟩:∃t,t=t1++cJ (q.take n):=⟨_,rfl⟩;rw [←ht2] at hsz⊢;have HK:=jJ (aI ht2 hkr);clear ht2 hkr;by_cases hnq:n<nq
  ·have hkd2:=HKD.o.1.keepNil HK.o.2;obtain ⟨bq,oq,rfl,hcell⟩:=aZ hkd2 hnq;have htk:q.take (n+1)=q.take n++[q.getD n 0]:=by
    have h1:n<q.length:=by rw [HKD.o.2];exact hnq
    rw [List.take_succ_eq_append_getElem h1];simp [List.getD,h1]
   have hx:I64 (q.getD n 0):=HA.o.r4.1 _ (by
    have h1:n<q.length:=by rw [HKD.o.2];exact hnq
    simp [List.getD,h1])
   have HX:=jJ (aI htk hx);clear htk hkd2;generalize q.getD n 0=x at *
   have hs5:(strOf (bC x)).size≤21:=by rw [aQ];exact bJ hx.1 hx.2
   clear hx;have hs6:(strOf (bC x++[44])).size≤22:=by rw [aQ,aZ1];rw [aQ] at hs5;simp;omega
   have he6:strOf (bC x)++(⟨#[44]⟩:ByteArray)=strOf (bC x++[44]):=bI _ [44];go_wp2_with (go_at_call 178;refine (itoa_any HX.o.2 ((HA.o.1.keepNil HT1.o.2).keepNil HK.o.2)).mono ?_;rintro e w3 ⟨rfl,hk3⟩;have H3:=jJ hk3;clear hk3)
   go_roundw
   case rel=>
    refine ⟨n+1,by go_num,hnq,?_,HK.o.2.trans H3.o⟩;rw [HX.o.1,kidsTxt_snoc,←mZ2,←HK.o.1];first|rw [he6,bI]|rw [bI]
   case measure=>simp [intOf];omega
  ·have en:nq=n:=by omega
   go_wp2_with fail
   go_ret
   refine ⟨?_,HT1.o.2.trans HK.o.2⟩;rw [HA.o.r5,←HT1.o.1,HK.o.1,eZ1 (by rw [HKD.o.2];omega)];rfl
theorem key7 {nd:Nat} {q:List Int} (hT:Tab B w) (h:NodeAt M w gd ad nd cd ap np cp gk ak nk ck aq nq cq ⟨7,d,⟨l,z⟩,v,q⟩) (hv:I64 v) (hq:∀x∈q,I64 x) (hn:nq≤16777216) :
  Calls prog 127 #[.agg #[.int .i64 7,.bool gd,.slice ad nd cd,.slice ap np cp,.bool gk,.slice ak nk ck,.int .i64 v,.slice aq nq cq]] w fun e w'=>e=.returned (.string (strOf (bA ⟨7,d,⟨l,z⟩,v,q⟩)))∧aA Nil w w':=by
 have hkt:bA ⟨7,d,⟨l,z⟩,v,q⟩=bC 7++[32]++(bC v++[58])++cJ q:=by
  unfold bA;simp only;rw [if_neg (by omega),if_pos (by simp),←mZ2]
 have hkI:I64 7:=by unfold I64;omega
 have hkd:=h.kids;have HA:=jJ (aI6 hT hkd hkI hv hq hkt);clear hT h hkI hv hq hkt hkd;go_enter func127,ntmps127
 go_upto_region 1 with (fail)
 obtain ⟨w0,e_3,k0,r0⟩:=bx1 w 59 [.int .i64 7,.bool gd,.slice ad nd cd,.slice ap np cp,.bool gk,.slice ak nk ck,.int .i64 v,.slice aq nq cq];rw [e_3];clear e_3;have H0:=jJ (aI k0 r0);have c0:w0.cell? ⟨w.heap.size,0,none⟩=some (.int .i64 7):=r0.cell 0;have hs0:(strOf (bC 7)).size≤21:=by rw [aQ];exact bJ HA.o.2.2.1.1 HA.o.2.2.1.2
 clear k0 r0;go_upto_region 2 with (go_at_call 178;refine (itoa_any HA.o.2.2.1 (HA.o.1.keepNil H0.o.1)).mono ?_;rintro e w1 ⟨rfl,hk1⟩;have r1:=H0.o.2.keep hk1 id;have d0:w1.cell? ⟨w.heap.size,0,none⟩=some (.int .i64 7):=r1.cell 0;have d6:w1.cell? ⟨w.heap.size,6,none⟩=some (.int .i64 v):=r1.cell 6;have d7:w1.cell? ⟨w.heap.size,7,none⟩=some (.slice aq nq cq):=r1.cell 7;have H1:=jJ (aI hk1 r1);clear hk1 r1)
 rw [show strOf (bC 7)++(⟨#[32]⟩:ByteArray)=strOf (bC 7++[32]) from bI _ [32]];obtain ⟨t0,ht0⟩:∃t,t=bC 7++[32]:=⟨_,rfl⟩;rw [←ht0];have hs1:(strOf t0).size≤22:=by rw [aQ,ht0,aZ1];rw [aQ] at hs0;simp;omega
 have HT0:=jJ ht0;have hs2:(strOf (bC v)).size≤21:=by rw [aQ];exact bJ HA.o.2.2.2.1.1 HA.o.2.2.2.1.2
 clear ht0 hs0 c0;have hs3:(strOf (bC v++[58])).size≤22:=by rw [aQ,aZ1];rw [aQ] at hs2;simp;omega
 have he3:strOf (bC v)++(⟨#[58]⟩:ByteArray)=strOf (bC v++[58]):=bI _ [58];go_upto_region 17 with (go_at_call 178;refine (itoa_any HA.o.2.2.2.1 ((HA.o.1.keepNil H0.o.1).keepNil H1.o.1)).mono ?_;rintro e w2 ⟨rfl,hk2⟩;have r2:=H1.o.2.keep hk2 id;have e7:w2.cell? ⟨w.heap.size,7,none⟩=some (.slice aq nq cq):=r2.cell 7;have H2:=jJ (aI hk2 r2);clear hk2 r2 d7)
 try rw [he3]
 rw [bI t0];obtain ⟨t1,ht1⟩:∃t,t=t0++(bC v++[58]):=⟨_,rfl⟩;rw [←ht1];rw [HT0.o] at ht1;have hs4:(strOf t1).size≤44:=by rw [ht1,aQ,aZ1,←HT0.o];rw [aQ] at hs1 hs3;omega
 clear hs1 hs2 hs3 he3 d0 d6;have kw:aA Nil w w2:=(H0.o.1.trans H1.o.1).trans H2.o.1;have HT1:=jJ (aI ht1 kw);have hkd:=HA.o.2.1.keepNil kw;have hle:=(hkd.ex.elim fun f h=>h.1.le);have hcap:=(hkd.ex.elim fun f h=>h.1.cap);have hlen:q.length=nq:=SlOf.len hkd;have HKD:=jJ (aI hkd hlen);clear ht1 kw hkd hlen;go_wp2_with fail
 go_loopw [3,59] (fun u i wr=>∃n:Nat,i=.int .i64 n∧n≤nq∧u=.string (strOf (t1++cJ (q.take n)))∧aA Nil w2 wr) (fun _ i _=>nq-(intOf i).toNat)
 case atStart=>exact⟨0,rfl,aZ2 _,by rw [List.take_zero,show cJ []=[] from rfl,fZ2],aA.refl _ _⟩
 case round=>
  obtain ⟨n,rfl,hn1,rfl,hkr⟩:=hrel;have hsz:(strOf (t1++cJ (q.take n))).size≤44+22*n:=by
   rw [aQ,aZ1];rw [aQ] at hs4;have h1:=length_kidsTxt (q.take n) fun x hx=>HA.o.r4.1 x (bZ3 hx);have h2:(q.take n).length≤n:=by rw [iZ1];exact Nat.min_le_left _ _
   omega
  obtain ⟨t2,ht2⟩:∃t,t=t1++cJ (q.take n):=⟨_,rfl⟩;rw [←ht2] at hsz⊢;have HK:=jJ (aI ht2 hkr);clear ht2 hkr;by_cases hnq:n<nq
  ·have hkd2:=HKD.o.1.keepNil HK.o.2;obtain ⟨bq,oq,rfl,hcell⟩:=aZ hkd2 hnq;have htk:q.take (n+1)=q.take n++[q.getD n 0]:=by
    have h1:n<q.length:=by rw [HKD.o.2];exact hnq
    rw [List.take_succ_eq_append_getElem h1];simp [List.getD,h1]
   have hx:I64 (q.getD n 0):=HA.o.r4.1 _ (by
    have h1:n<q.length:=by rw [HKD.o.2];exact hnq
    simp [List.getD,h1])
   have HX:=jJ (aI htk hx);clear htk hkd2;generalize q.getD n 0=x at *
   have hs5:(strOf (bC x)).size≤21:=by rw [aQ];exact bJ hx.1 hx.2
   clear hx;have hs6:(strOf (bC x++[44])).size≤22:=by rw [aQ,aZ1];rw [aQ] at hs5;simp;omega
   have he6:strOf (bC x)++(⟨#[44]⟩:ByteArray)=strOf (bC x++[44]):=bI _ [44];go_wp2_with (go_at_call 178;refine (itoa_any HX.o.2 ((HA.o.1.keepNil HT1.o.2).keepNil HK.o.2)).mono ?_;rintro e w3 ⟨rfl,hk3⟩;have H3:=jJ hk3;clear hk3)
   go_roundw
   case rel=>
    refine ⟨n+1,by go_num,hnq,?_,HK.o.2.trans H3.o⟩;rw [HX.o.1,kidsTxt_snoc,←mZ2,←HK.o.1];first|rw [he6,bI]|rw [bI]
   case measure=>simp [intOf];omega
  ·have en:nq=n:=by omega
   go_wp2_with fail
   go_ret
   refine ⟨?_,HT1.o.2.trans HK.o.2⟩;rw [HA.o.r5,←HT1.o.1,HK.o.1,eZ1 (by rw [HKD.o.2];omega)];rfl
theorem key8 {nd:Nat} {q:List Int} (hT:Tab B w) (h:NodeAt M w gd ad nd cd ap np cp gk ak nk ck aq nq cq ⟨8,d,⟨l,z⟩,v,q⟩) (hv:I64 v) (hq:∀x∈q,I64 x) (hn:nq≤16777216) :
  Calls prog 127 #[.agg #[.int .i64 8,.bool gd,.slice ad nd cd,.slice ap np cp,.bool gk,.slice ak nk ck,.int .i64 v,.slice aq nq cq]] w fun e w'=>e=.returned (.string (strOf (bA ⟨8,d,⟨l,z⟩,v,q⟩)))∧aA Nil w w':=by
 have hkt:bA ⟨8,d,⟨l,z⟩,v,q⟩=bC 8++[32]++(bC v++[58])++cJ q:=by
  unfold bA;simp only;rw [if_neg (by omega),if_pos (by simp),←mZ2]
 have hkI:I64 8:=by unfold I64;omega
 have hkd:=h.kids;have HA:=jJ (aI6 hT hkd hkI hv hq hkt);clear hT h hkI hv hq hkt hkd;go_enter func127,ntmps127
 go_upto_region 1 with (fail)
 obtain ⟨w0,e_4,k0,r0⟩:=bx1 w 59 [.int .i64 8,.bool gd,.slice ad nd cd,.slice ap np cp,.bool gk,.slice ak nk ck,.int .i64 v,.slice aq nq cq];rw [e_4];clear e_4;have H0:=jJ (aI k0 r0);have c0:w0.cell? ⟨w.heap.size,0,none⟩=some (.int .i64 8):=r0.cell 0;have hs0:(strOf (bC 8)).size≤21:=by rw [aQ];exact bJ HA.o.2.2.1.1 HA.o.2.2.1.2
 clear k0 r0;go_upto_region 2 with (go_at_call 178;refine (itoa_any HA.o.2.2.1 (HA.o.1.keepNil H0.o.1)).mono ?_;rintro e w1 ⟨rfl,hk1⟩;have r1:=H0.o.2.keep hk1 id;have d0:w1.cell? ⟨w.heap.size,0,none⟩=some (.int .i64 8):=r1.cell 0;have d6:w1.cell? ⟨w.heap.size,6,none⟩=some (.int .i64 v):=r1.cell 6;have d7:w1.cell? ⟨w.heap.size,7,none⟩=some (.slice aq nq cq):=r1.cell 7;have H1:=jJ (aI hk1 r1);clear hk1 r1)
 rw [show strOf (bC 8)++(⟨#[32]⟩:ByteArray)=strOf (bC 8++[32]) from bI _ [32]];obtain ⟨t0,ht0⟩:∃t,t=bC 8++[32]:=⟨_,rfl⟩;rw [←ht0];have hs1:(strOf t0).size≤22:=by rw [aQ,ht0,aZ1];rw [aQ] at hs0;simp;omega
 have HT0:=jJ ht0;have hs2:(strOf (bC v)).size≤21:=by rw [aQ];exact bJ HA.o.2.2.2.1.1 HA.o.2.2.2.1.2
 clear ht0 hs0 c0;have hs3:(strOf (bC v++[58])).size≤22:=by rw [aQ,aZ1];rw [aQ] at hs2;simp;omega
 have he3:strOf (bC v)++(⟨#[58]⟩:ByteArray)=strOf (bC v++[58]):=bI _ [58];go_upto_region 17 with (go_at_call 178;refine (itoa_any HA.o.2.2.2.1 ((HA.o.1.keepNil H0.o.1).keepNil H1.o.1)).mono ?_;rintro e w2 ⟨rfl,hk2⟩;have r2:=H1.o.2.keep hk2 id;have e7:w2.cell? ⟨w.heap.size,7,none⟩=some (.slice aq nq cq):=r2.cell 7;have H2:=jJ (aI hk2 r2);clear hk2 r2 d7)
 try rw [he3]
 rw [bI t0];obtain ⟨t1,ht1⟩:∃t,t=t0++(bC v++[58]):=⟨_,rfl⟩;rw [←ht1];rw [HT0.o] at ht1;have hs4:(strOf t1).size≤44:=by rw [ht1,aQ,aZ1,←HT0.o];rw [aQ] at hs1 hs3;omega
 clear hs1 hs2 hs3 he3 d0 d6;have kw:aA Nil w w2:=(H0.o.1.trans H1.o.1).trans H2.o.1;have HT1:=jJ (aI ht1 kw);have hkd:=HA.o.2.1.keepNil kw;have hle:=(hkd.ex.elim fun f h=>h.1.le);have hcap:=(hkd.ex.elim fun f h=>h.1.cap);have hlen:q.length=nq:=SlOf.len hkd;have HKD:=jJ (aI hkd hlen);clear ht1 kw hkd hlen;go_wp2_with fail
 go_loopw [3,59] (fun u i wr=>∃n:Nat,i=.int .i64 n∧n≤nq∧u=.string (strOf (t1++cJ (q.take n)))∧aA Nil w2 wr) (fun _ i _=>nq-(intOf i).toNat)
 case atStart=>exact⟨0,rfl,aZ2 _,by rw [List.take_zero,show cJ []=[] from rfl,fZ2],aA.refl _ _⟩
 case round=>
  obtain ⟨n,rfl,hn1,rfl,hkr⟩:=hrel;have hsz:(strOf (t1++cJ (q.take n))).size≤44+22*n:=by
   rw [aQ,aZ1];rw [aQ] at hs4;have h1:=length_kidsTxt (q.take n) fun x hx=>HA.o.r4.1 x (bZ3 hx);have h2:(q.take n).length≤n:=by rw [iZ1];exact Nat.min_le_left _ _
   omega
  obtain ⟨t2,ht2⟩:∃t,t=t1++cJ (q.take n):=⟨_,rfl⟩;rw [←ht2] at hsz⊢;have HK:=jJ (aI ht2 hkr);clear ht2 hkr;by_cases hnq:n<nq
  ·have hkd2:=HKD.o.1.keepNil HK.o.2;obtain ⟨bq,oq,rfl,hcell⟩:=aZ hkd2 hnq;have htk:q.take (n+1)=q.take n++[q.getD n 0]:=by
    have h1:n<q.length:=by rw [HKD.o.2];exact hnq
    rw [List.take_succ_eq_append_getElem h1];simp [List.getD,h1]
   have hx:I64 (q.getD n 0):=HA.o.r4.1 _ (by
    have h1:n<q.length:=by rw [HKD.o.2];exact hnq
    simp [List.getD,h1])
   have HX:=jJ (aI htk hx);clear htk hkd2;generalize q.getD n 0=x at *
   have hs5:(strOf (bC x)).size≤21:=by rw [aQ];exact bJ hx.1 hx.2
   clear hx;have hs6:(strOf (bC x++[44])).size≤22:=by rw [aQ,aZ1];rw [aQ] at hs5;simp;omega
   have he6:strOf (bC x)++(⟨#[44]⟩:ByteArray)=strOf (bC x++[44]):=bI _ [44];go_wp2_with (go_at_call 178;refine (itoa_any HX.o.2 ((HA.o.1.keepNil HT1.o.2).keepNil HK.o.2)).mono ?_;rintro e w3 ⟨rfl,hk3⟩;have H3:=jJ hk3;clear hk3)
   go_roundw
   case rel=>
    refine ⟨n+1,by go_num,hnq,?_,HK.o.2.trans H3.o⟩;rw [HX.o.1,kidsTxt_snoc,←mZ2,←HK.o.1];first|rw [he6,bI]|rw [bI]
   case measure=>simp [intOf];omega
  ·have en:nq=n:=by omega
   go_wp2_with fail
   go_ret
   refine ⟨?_,HT1.o.2.trans HK.o.2⟩;rw [HA.o.r5,←HT1.o.1,HK.o.1,eZ1 (by rw [HKD.o.2];omega)];rfl
end
section
variable {l:List Nat} {w:World} {P:Program} {E:TypeId} {B:Nat} {zs:List Int} {k:IntKind} {v:Value}
def Byt (l:List Nat):Prop:=∀b∈l,b<256
theorem Byt.append {m:List Nat} (h:Byt l) (k:Byt m):Byt (l++m):=fun b hb=>(jZ1.1 hb).elim (h b) (k b)
theorem byt_nats (l:List UInt8):Byt (nats l):=fun b hb=>by obtain ⟨x,_,rfl⟩:=iZ2.1 hb;exact x.toNat_lt
theorem byt_itoaN (i:Int):Byt (bC i):=byt_nats _
theorem byt_d36 (u:Nat):Byt (d36 u):=by
 induction u using Nat.strongRecOn with
 | ind u ih=>
  have hd:∀d,d<36→dg36 d<256:=fun d h=>by unfold dg36;split<;>omega
  by_cases hu:u<36
  ·rw [d36_small hu];intro b hb;rw [dZ1.1 hb];exact hd u hu
  ·rw [d36_big hu];exact (ih (u / 36) (by omega)).append fun b hb=>by rw [dZ1.1 hb];exact hd _ (Nat.mod_lt _ (by omega))
theorem byt_magTxt (l:List Nat):Byt (magTxt l):=fun b hb=>by
 obtain ⟨x,_,h⟩:=cZ3.1 hb;rcases mZ1.1 h with rfl|h
 ·omega
 ·exact byt_d36 x b h
theorem byt_numTxt (z:Int):Byt (dS z):=fun b hb=>by
 rcases mZ1.1 hb with rfl|hb
 ·omega
 ·rcases jZ1.1 hb with hb|hb
  ·split at hb
   ·rw [dZ1.1 hb];omega
   ·cases hb
  ·rcases jZ1.1 hb with hb|hb
   ·exact byt_magTxt _ b hb
   ·rw [dZ1.1 hb];omega
theorem byt_partsTxt (l:aT):Byt (cA l):=fun b hb=>by
 obtain ⟨p,_,h⟩:=cZ3.1 hb;exact ((byt_itoaN p.1).append (byt_numTxt p.2)) b h
theorem dC (z:Int):(dS z).length≤3+32*nlen z.natAbs:=by
 have h1:=length_magTxt (bD z.natAbs) (fun x hx=>small_limbsOf z.natAbs x hx);have h2:nlen z.natAbs=(bD z.natAbs).length:=rfl;rw [dS,gZ1,aZ1,aZ1];have h3:(if neg z=true then [45] else ([]:List Nat)).length≤1:=by split<;>simp
 simp only [gZ1,gZ2];omega
def bulkP:aT→Nat
 | []=>0
 | p::l=>24+32*nlen p.2.natAbs+bulkP l
theorem bulkP_append:∀(l m:aT),bulkP (l++m)=bulkP l+bulkP m
 | [],m=>by simp [bulkP]
 | p::l,m=>by rw [eZ3,bulkP,bulkP,bulkP_append l m];omega
theorem partsTxt_snoc (l:aT) (p:Int × Int):cA (l++[p])=cA l++(bC p.1++dS p.2):=by simp [cA]
theorem length_partsTxt:∀(l:aT),(∀p∈l,-9223372036854775808≤p.1∧p.1≤9223372036854775807)→(cA l).length≤bulkP l
 | [],_=>by simp [cA]
 | p::l,h=>by
  have h1:=length_partsTxt l fun y hy=>h y (lZ1 _ hy);have h2:=bJ (h p (kZ1 ..)).1 (h p (kZ1 ..)).2;have h3:=dC p.2;rw [show cA (p::l)=(bC p.1++dS p.2)++cA l from rfl,aZ1,aZ1,bulkP];omega
theorem nats_ofNat (h:Byt l):nats (l.map UInt8.ofNat)=l:=by
 unfold nats;rw [List.map_map];conv=>rhs;rw [←List.map_id l]
 exact List.map_congr_left fun x hx=>by have:=h x hx;simp;omega
theorem ownB_conv (hl:Byt l) (hB:B≤w.heap.size) (hm:l.length≤maxLen) :
  OwnB (w.drew.alloc (.cells (bytesRow (strOf l) (grownCap w (strOf l).size 0 E)) E ((bytesRow (strOf l) (grownCap w (strOf l).size 0 E)).size,(bytesRow (strOf l) (grownCap w (strOf l).size 0 E)).size+1))) B E (.slice (some ⟨w.heap.size,0,none⟩) (strOf l).size (grownCap w (strOf l).size 0 E)) l:=by
 have hge:=grownCap_ge w (strOf l).size 0 E;have hle:=grownCap_le_maxLen w (strOf l).size 0 E (by rw [aQ];exact hm);rw [aQ] at hge hle⊢;refine .inr ⟨w.heap.size,_,_,_,rfl,hB,heap_alloc_new w.drew _,.inr (bZ2 _),hge,hle,?_,?_⟩
 ·simp [bytesRow,strOf,ByteArray.size];omega
 ·have hb:(strOf l).data.toList.map (fun b=>Value.int .u8 (b.toNat:Int))=l.map byteV:=by
   rw [show (strOf l).data.toList=l.map UInt8.ofNat by simp [strOf],←nats_byteV,nats_ofNat hl]
  simp only [bytesRow,Array.toList_append,Array.toList_map];rw [List.take_left' (by simp [strOf])];exact hb
theorem OwnB.text (h:OwnB w B E v l) (hl:Byt l) (h0:l≠[]) (src dst:TypeId) (hs:P.underlying src=some (.slice E)) (he:P.underlying E=some (.int .u8)) (hd:P.underlying dst=some .string) :
  (convert src dst v).run P w=.ok (.string (strOf l)) w:=by
 have hc:=fun g=>h.cells (g:=g);rcases h with ⟨rfl,rfl⟩|⟨g,cap,cur,fz,rfl,-⟩
 ·exact absurd rfl h0
 ·have h1:=run_convert_bytes_back (P:=P) w src dst E ⟨g,0,none⟩ cap (l.map UInt8.ofNat) hs he hd fun j hj=>by
   refine hc g rfl j _ ?_;have e:=nats_byteV (l.map UInt8.ofNat);rw [nats_ofNat hl] at e;rw [e,List.getElem?_map,jZ2 hj];rfl
  rw [hZ1] at h1;exact h1
theorem tab_up {B':Nat} {name:String} (h:Lib.TabBelow P B w name k zs) (hB:B≤B'):Lib.TabBelow P B' w name k zs:=fun w' hb=>h w' ⟨hb.os,hb.tape,hb.output,hb.size,fun j hj=>hb.block j (cZ1 hj hB)⟩
end
section
variable {w:World} {B:Nat} {v d z:Int} {l:aT} {gd gk:Bool} {ad ap ak aq:Option Addr}
theorem key2 {nd cd np cp nk ck nq cq:Nat} {q:List Int} (hT:Tab B w) (h:NodeAt Nil w gd ad nd cd ap np cp gk ak nk ck aq nq cq ⟨2,d,⟨l,z⟩,v,q⟩) (hroom:32*nlen d.natAbs+32*nlen z.natAbs+bulkP l≤70368744177000) :
  Calls prog 127 #[.agg #[.int .i64 2,.bool gd,.slice ad nd cd,.slice ap np cp,.bool gk,.slice ak nk ck,.int .i64 v,.slice aq nq cq]] w fun e w'=>e=.returned (.string (strOf (bA ⟨2,d,⟨l,z⟩,v,q⟩)))∧aA Nil w w':=by
 have hkt:bA ⟨2,d,⟨l,z⟩,v,q⟩=bC 2++[32]++(dS d++dS z++cA l):=by
  unfold bA;simp only;rw [if_pos (by simp)]
 have hkI:I64 2:=by unfold I64;omega
 have hzd:ZN (From w.heap.size) w gd ad nd cd d:=h.d.move (aA.refl Nil w) (fun _ _ h=>h.elim) fun b hb hf=>by unfold From at hf;omega
 have hzk:ZN (From w.heap.size) w gk ak nk ck z:=h.t.2.move (aA.refl Nil w) (fun _ _ h=>h.elim) fun b hb hf=>by unfold From at hf;omega
 have hp:cW (From w.heap.size) (From w.heap.size) w ap np cp l:=h.t.1.move (M1':=From w.heap.size) (M2':=From w.heap.size) (aA.refl Nil w) (fun _ _ h=>h.elim) (fun b hb hf=>by unfold From at hf;omega) (fun _ _ h=>h.elim) fun b hb hf=>by unfold From at hf;omega
 have HA:=jJ (aI7 hT hzd hkI hkt hzk hp hroom);clear hT h hkI hkt hzd hzk hp hroom;go_enter func127,ntmps127
 go_upto_region 1 with (fail)
 obtain ⟨w0,e_1,k0,r0⟩:=bx1 w 59 [.int .i64 2,.bool gd,.slice ad nd cd,.slice ap np cp,.bool gk,.slice ak nk ck,.int .i64 v,.slice aq nq cq];rw [e_1];clear e_1;have H0:=jJ (aI k0 r0);have c0:w0.cell? ⟨w.heap.size,0,none⟩=some (.int .i64 2):=r0.cell 0;have hs0:(strOf (bC 2)).size≤21:=by rw [aQ];exact bJ HA.o.2.2.1.1 HA.o.2.2.1.2
 clear k0 r0;go_upto_region 2 with (go_at_call 178;refine (itoa_any HA.o.2.2.1 (HA.o.1.keepNil H0.o.1)).mono ?_;rintro e w1 ⟨rfl,hk1⟩;have r1:=H0.o.2.keep hk1 id;have d0:w1.cell? ⟨w.heap.size,0,none⟩=some (.int .i64 2):=r1.cell 0;have H1:=jJ (aI hk1 r1);clear hk1 r1)
 rw [show strOf (bC 2)++(⟨#[32]⟩:ByteArray)=strOf (bC 2++[32]) from bI _ [32]];obtain ⟨t0,ht0⟩:∃t,t=bC 2++[32]:=⟨_,rfl⟩;rw [←ht0];have hs1:t0.length≤22:=by rw [ht0,aZ1];rw [aQ] at hs0;simp;omega
 have hb0:Byt t0:=by rw [ht0];exact (byt_itoaN _).append fun b hb=>by rw [dZ1.1 hb];omega
 have hne0:t0≠[]:=by rw [ht0];simp
 have hcv:=run_bytes_of_string (P:=prog) w1 9 211 5 (strOf t0) underlying9 underlying211 underlying5;have hw1:w.heap.size≤w1.heap.size:=(H0.o.1.trans H1.o.1).size;have hown:=ownB_conv (w:=w1) (B:=w.heap.size) (E:=5) hb0 hw1 (by unfold maxLen;omega);have hk2:aA Nil w1 (w1.drew.alloc (.cells (bytesRow (strOf t0) (grownCap w1 (strOf t0).size 0 5)) 5 ((bytesRow (strOf t0) (grownCap w1 (strOf t0).size 0 5)).size,(bytesRow (strOf t0) (grownCap w1 (strOf t0).size 0 5)).size+1))):=((aA.refl Nil w1).drew).alloc _;generalize w1.drew.alloc (.cells (bytesRow (strOf t0) (grownCap w1 (strOf t0).size 0 5)) 5 ((bytesRow (strOf t0) (grownCap w1 (strOf t0).size 0 5)).size,(bytesRow (strOf t0) (grownCap w1 (strOf t0).size 0 5)).size+1))=w2 at *
 generalize Value.slice (some ⟨w1.heap.size,0,none⟩) (strOf t0).size (grownCap w1 (strOf t0).size 0 5)=v2 at *
 have r2:=H1.o.2.keep hk2 id;have e1:w2.cell? ⟨w.heap.size,1,none⟩=some (.bool gd):=r2.cell 1;have e2:w2.cell? ⟨w.heap.size,2,none⟩=some (.slice ad nd cd):=r2.cell 2;have kw2:=(H0.o.1.trans H1.o.1).trans hk2;have HT0:=jJ (aI4 ht0 hs1 hb0 hne0);have H2:=jJ (aI3 hown kw2 r2);have HC:=jJ hcv;clear ht0 hs0 c0 hs1 hb0 hne0 hcv hown hk2 r2 kw2;go_upto_region 6 with fail
 go_wp2_with fail
 rw [HC.o];have HN:=jJ (cZ1 (show w.heap.size<w.heap.size+1 by omega) (show w.heap.size+1≤w2.heap.size by have:=H2.o.2.2.lt;omega));go_upto_region 7 with (go_at_call 179;go_loud (refine (limbs_txt (B:=w.heap.size) H2.o.1 H2.o.2.1.size (HA.o.2.1.move H2.o.2.1 (fun _ _ h=>h.elim) fun _ _ h=>h) (by have h1:=HA.o.r6;have h2:=HT0.o.2.1;omega)).mono ?_;rintro e w3 ⟨v3,rfl,hp⟩;have r3:=H2.o.2.2.keep hp.keep (H2.o.1.ne H2.o.2.2 (by decide));have f4:w3.cell? ⟨w.heap.size,4,none⟩=some (.bool gk):=r3.cell 4;have f5:w3.cell? ⟨w.heap.size,5,none⟩=some (.slice ak nk ck):=r3.cell 5;have hfr:∀b,v2.ownBlock=some b→w.heap.size≤b:=(fun b hb=>(H2.o.1.lt b hb).1);have k3:aA Nil w w3:=H2.o.2.1.newer hp.keep hfr;have H3:=jJ (aI3 hp.own k3 r3);clear hp r3 hfr k3))
 go_upto_region 8 with (go_at_call 179;go_loud (refine (limbs_txt (B:=w.heap.size) H3.o.1 H3.o.2.1.size (HA.o.r4.1.move H3.o.2.1 (fun _ _ h=>h.elim) fun _ _ h=>h) (by have h1:=HA.o.r6;have h2:=HT0.o.2.1;have h3:=dC d;rw [aZ1];omega)).mono ?_;rintro e w4 ⟨v4,rfl,hp⟩;have r4:=H3.o.2.2.keep hp.keep (H3.o.1.ne H3.o.2.2 (by decide));have g3:w4.cell? ⟨w.heap.size,3,none⟩=some (.slice ap np cp):=r4.cell 3;have k4:aA Nil w w4:=H3.o.2.1.newer hp.keep (fun b hb=>(H3.o.1.lt b hb).1);have H4:=jJ (aI3 hp.own k4 r4);clear hp r4 k4))
 clear e1 e2 f4 f5 d0;obtain ⟨t1,ht1⟩:∃t,t=t0++dS d++dS z:=⟨_,rfl⟩;have h4:=H4.o;rw [←ht1] at h4;have hl1:t1.length≤28+32*nlen d.natAbs+32*nlen z.natAbs:=by have h2:=HT0.o.2.1;have h3:=dC d;have h5:=dC z;rw [ht1,aZ1,aZ1];omega
 have hb1:Byt t1:=by rw [ht1];exact (HT0.o.2.2.1.append (byt_numTxt d)).append (byt_numTxt z)
 have hne1:t1≠[]:=by rw [ht1];have:=HT0.o.2.2.2;simp [this]
 have hkt:bA ⟨2,d,⟨l,z⟩,v,q⟩=t1++cA l:=by rw [HA.o.2.2.2.1,ht1,HT0.o.1];simp
 have hlen:l.length=np:=SlOf.len HA.o.r5.1;have hle:=(HA.o.r5.1.ex.elim fun f h=>h.1.le);have hcap:=(HA.o.r5.1.ex.elim fun f h=>h.1.cap);have hI:∀p∈l,-9223372036854775808≤p.1∧p.1≤9223372036854775807:=fun p hp=>by
  obtain ⟨i,hi,rfl⟩:=gZ3 hp;obtain ⟨_,_,_,_,_,_,_,_,_,_,_,_,_,h1,h2⟩:=HA.o.r5.1.at (i:=i) (by omega);rw [pth_lt hi] at h1 h2;exact⟨h1,h2⟩
 have HT1:=jJ (aI6 hl1 hb1 hne1 hkt hlen hI);have HX:=jJ (aI h4.1 h4.2.1);clear h4 hl1 hb1 hne1 hkt ht1 hlen hI H4;go_wp2_with fail
 go_loopw [4,33] (fun u i wr=>∃n:Nat,i=.int .i64 n∧n≤np∧OwnB wr w.heap.size 5 u (t1++cA (l.take n))∧aA Nil w wr) (fun _ i _=>np-(intOf i).toNat)
 case atStart=>exact⟨0,rfl,aZ2 _,by rw [List.take_zero,show cA []=[] from rfl,fZ2];exact HX.o.1,HX.o.2⟩
 case round=>
  obtain ⟨n,rfl,hn1,hown,hkr⟩:=hrel;obtain ⟨t2,ht2⟩:∃t,t=t1++cA (l.take n):=⟨_,rfl⟩;rw [←ht2] at hown;have hl2:t2.length≤t1.length+bulkP (l.take n):=by
   rw [ht2,aZ1];have:=length_partsTxt (l.take n) fun p hp=>HT1.o.r5 p (bZ3 hp);omega
  have hne2:t2≠[]:=by rw [ht2];have:=HT1.o.2.2.1;simp [this]
  have HK:=jJ (aI5 ht2 hown hkr hl2 hne2);clear ht2 hown hkr hl2 hne2;by_cases hnp:n<np
  ·obtain ⟨b,off,g',a',n',c',rfl,hb,-,x0,x1,x2,hzz,i1',i2'⟩:=(HA.o.r5.1.move (M1':=From w.heap.size) (M2':=From w.heap.size) HK.o.2.2.1 (fun _ _ h=>h.elim) (fun _ _ h=>h) (fun _ _ h=>h.elim) fun _ _ h=>h).at hnp;have htk:l.take (n+1)=l.take n++[pth l n]:=by
    have h1:n<l.length:=by rw [HT1.o.r4.1];exact hnp
    rw [List.take_succ_eq_append_getElem h1,pth_lt h1]
   have hbk:bulkP (l.take n)+(24+32*nlen (pth l n).2.natAbs)≤bulkP l:=by
    have h1:=congrArg bulkP htk;rw [bulkP_append] at h1;have h2:=congrArg bulkP (aZ3 (n+1) l);rw [bulkP_append] at h2;simp only [bulkP] at h1;omega
   have HZ:=jJ (aI3 htk hbk hzz);clear htk hbk hzz;generalize pth l n=p at *
   obtain ⟨x,y⟩:=p;simp only at x0 i1' i2';go_upto_region 11 with fail
   have r6:aC (wr.alloc (.cells #[.int .i64 x,.bool g',.slice a' n' c'] 96)) wr.heap.size 96 [.int .i64 x,.bool g',.slice a' n' c']:=aC.alloc;have k6:aA Nil wr (wr.alloc (.cells #[.int .i64 x,.bool g',.slice a' n' c'] 96)):=kOf;generalize wr.alloc (.cells #[.int .i64 x,.bool g',.slice a' n' c'] 96)=wp at *
   have h6:=HK.o.2.1.keepNil k6;have hT6:=tab_up (HA.o.1.keepNil (HK.o.2.2.1.trans k6)).2 (B':=w.heap.size) HA.o.1.1;have hz6:=HZ.o.2.2.move (M2:=From w.heap.size) k6 (fun _ _ h=>h.elim) fun _ _ h=>h;have hs6:=(HK.o.2.2.1.trans k6).size;have hl6:t2.length+(24+32*nlen y.natAbs)≤70368744177100:=by have h1:=HK.o.2.2.2.1;have h2:=HZ.o.2.1;have h3:=HT1.o.1;have h4:=HA.o.r6;simp only at h2;omega
   obtain ⟨x0',x1',x2'⟩:=r6.three;have H6:=jJ (aI7 r6 k6 h6 hT6 hz6 hs6 hl6);clear r6 k6 h6 hT6 hz6 hs6 hl6 x0 x1 x2;go_region_held3 (fun w'=>w'.cell? ⟨wr.heap.size,0,none⟩=some (.int .i64 x)∧w'.cell? ⟨wr.heap.size,1,none⟩=some (.bool g')∧w'.cell? ⟨wr.heap.size,2,none⟩=some (.slice a' n' c')) (go_keep) ((first|(go_at_call 180;go_loud (refine (appendI_any (B:=w.heap.size) x i1' i2' (H6.o.2.2.1.keepNil ((aA.refl Nil wp).drew)) H6.o.r5.1 (by have h1:=H6.o.r6;omega) HK.o.r4 (H6.o.2.2.2.1.on (below_of ((aA.refl Nil wp).drew) (fun _ h=>h.elim) H6.o.r5.1))).mono ?_;rintro e w5 ⟨v5,rfl,hp5⟩;have r7:=(H6.o.1.keep ((aA.refl Nil wp).drew) id).keep hp5.keep ((H6.o.2.2.1.keepNil ((aA.refl Nil wp).drew)).ne (H6.o.1.keep ((aA.refl Nil wp).drew) id) (by decide));obtain ⟨y0,y1,y2⟩:=r7.three;have k5:aA Nil w w5:=(HK.o.2.2.1.trans (H6.o.2.1.trans (aA.refl Nil wp).drew)).newer hp5.keep (fun b hb=>(H6.o.2.2.1.lt b hb).1);have H5:=jJ (aI4 hp5.own k5 r7 (H6.o.r4.1.move (M2:=From w.heap.size) (((aA.refl Nil wp).drew.of_nil (M:=From w.heap.size)).trans (hp5.keep.mono (fun b hb=>(H6.o.2.2.1.lt b hb).1))) (fun _ _ h=>h) fun _ _ h=>h));clear hp5 r7 k5))|(go_at_call 179;go_loud (refine (limbs_txt (B:=w.heap.size) H5.o.1 H5.o.2.1.size H5.o.2.2.2 (by have h1:=H6.o.r6;have h2:=bJ i1' i2';rw [aZ1];omega)).mono ?_;rintro e w8 ⟨v8,rfl,hp8⟩;have r8:=H5.o.2.2.1.keep hp8.keep (H5.o.1.ne H5.o.2.2.1 (by decide));obtain ⟨z0,z1,z2⟩:=r8.three;have k8:aA Nil w w8:=H5.o.2.1.newer hp8.keep (fun b hb=>(H5.o.1.lt b hb).1);have H8:=jJ (aI hp8.own k8);clear hp8 r8 k8))))
   all_goals
    go_wp2
    go_roundw
    case rel=>
     refine ⟨n+1,by go_num,hnp,?_,H8.o.2⟩;rw [HZ.o.1,partsTxt_snoc,←mZ2,←HK.o.1,←mZ2];exact H8.o.1
    case measure=>simp [intOf];omega
  ·have en:np=n:=by omega
   have hcb:=OwnB.text (P:=prog) HK.o.2.1 (by rw [HK.o.1];exact HT1.o.2.1.append (byt_partsTxt _)) HK.o.r4 211 9 underlying211 underlying5 underlying9;have HCB:=jJ hcb;clear hcb;go_wp2_with fail
   rw [HCB.o];go_wp2
   go_ret
   refine ⟨?_,HK.o.2.2.1⟩;rw [HT1.o.2.2.2.1,HK.o.1,eZ1 (by rw [HT1.o.r4.1];omega)];rfl
theorem key3 {nd cd np cp nk ck nq cq:Nat} {q:List Int} (hT:Tab B w) (h:NodeAt Nil w gd ad nd cd ap np cp gk ak nk ck aq nq cq ⟨3,d,⟨l,z⟩,v,q⟩) (hroom:32*nlen d.natAbs+32*nlen z.natAbs+bulkP l≤70368744177000) :
  Calls prog 127 #[.agg #[.int .i64 3,.bool gd,.slice ad nd cd,.slice ap np cp,.bool gk,.slice ak nk ck,.int .i64 v,.slice aq nq cq]] w fun e w'=>e=.returned (.string (strOf (bA ⟨3,d,⟨l,z⟩,v,q⟩)))∧aA Nil w w':=by
 have hkt:bA ⟨3,d,⟨l,z⟩,v,q⟩=bC 3++[32]++(dS d++dS z++cA l):=by
  unfold bA;simp only;rw [if_pos (by simp)]
 have hkI:I64 3:=by unfold I64;omega
 have hzd:ZN (From w.heap.size) w gd ad nd cd d:=h.d.move (aA.refl Nil w) (fun _ _ h=>h.elim) fun b hb hf=>by unfold From at hf;omega
 have hzk:ZN (From w.heap.size) w gk ak nk ck z:=h.t.2.move (aA.refl Nil w) (fun _ _ h=>h.elim) fun b hb hf=>by unfold From at hf;omega
 have hp:cW (From w.heap.size) (From w.heap.size) w ap np cp l:=h.t.1.move (M1':=From w.heap.size) (M2':=From w.heap.size) (aA.refl Nil w) (fun _ _ h=>h.elim) (fun b hb hf=>by unfold From at hf;omega) (fun _ _ h=>h.elim) fun b hb hf=>by unfold From at hf;omega
 have HA:=jJ (aI7 hT hzd hkI hkt hzk hp hroom);clear hT h hkI hkt hzd hzk hp hroom;go_enter func127,ntmps127
 go_upto_region 1 with (fail)
 obtain ⟨w0,e_2,k0,r0⟩:=bx1 w 59 [.int .i64 3,.bool gd,.slice ad nd cd,.slice ap np cp,.bool gk,.slice ak nk ck,.int .i64 v,.slice aq nq cq];rw [e_2];clear e_2;have H0:=jJ (aI k0 r0);have c0:w0.cell? ⟨w.heap.size,0,none⟩=some (.int .i64 3):=r0.cell 0;have hs0:(strOf (bC 3)).size≤21:=by rw [aQ];exact bJ HA.o.2.2.1.1 HA.o.2.2.1.2
 clear k0 r0;go_upto_region 2 with (go_at_call 178;refine (itoa_any HA.o.2.2.1 (HA.o.1.keepNil H0.o.1)).mono ?_;rintro e w1 ⟨rfl,hk1⟩;have r1:=H0.o.2.keep hk1 id;have d0:w1.cell? ⟨w.heap.size,0,none⟩=some (.int .i64 3):=r1.cell 0;have H1:=jJ (aI hk1 r1);clear hk1 r1)
 rw [show strOf (bC 3)++(⟨#[32]⟩:ByteArray)=strOf (bC 3++[32]) from bI _ [32]];obtain ⟨t0,ht0⟩:∃t,t=bC 3++[32]:=⟨_,rfl⟩;rw [←ht0];have hs1:t0.length≤22:=by rw [ht0,aZ1];rw [aQ] at hs0;simp;omega
 have hb0:Byt t0:=by rw [ht0];exact (byt_itoaN _).append fun b hb=>by rw [dZ1.1 hb];omega
 have hne0:t0≠[]:=by rw [ht0];simp
 have hcv:=run_bytes_of_string (P:=prog) w1 9 211 5 (strOf t0) underlying9 underlying211 underlying5;have hw1:w.heap.size≤w1.heap.size:=(H0.o.1.trans H1.o.1).size;have hown:=ownB_conv (w:=w1) (B:=w.heap.size) (E:=5) hb0 hw1 (by unfold maxLen;omega);have hk2:aA Nil w1 (w1.drew.alloc (.cells (bytesRow (strOf t0) (grownCap w1 (strOf t0).size 0 5)) 5 ((bytesRow (strOf t0) (grownCap w1 (strOf t0).size 0 5)).size,(bytesRow (strOf t0) (grownCap w1 (strOf t0).size 0 5)).size+1))):=((aA.refl Nil w1).drew).alloc _;generalize w1.drew.alloc (.cells (bytesRow (strOf t0) (grownCap w1 (strOf t0).size 0 5)) 5 ((bytesRow (strOf t0) (grownCap w1 (strOf t0).size 0 5)).size,(bytesRow (strOf t0) (grownCap w1 (strOf t0).size 0 5)).size+1))=w2 at *
 generalize Value.slice (some ⟨w1.heap.size,0,none⟩) (strOf t0).size (grownCap w1 (strOf t0).size 0 5)=v2 at *
 have r2:=H1.o.2.keep hk2 id;have e1:w2.cell? ⟨w.heap.size,1,none⟩=some (.bool gd):=r2.cell 1;have e2:w2.cell? ⟨w.heap.size,2,none⟩=some (.slice ad nd cd):=r2.cell 2;have kw2:=(H0.o.1.trans H1.o.1).trans hk2;have HT0:=jJ (aI4 ht0 hs1 hb0 hne0);have H2:=jJ (aI3 hown kw2 r2);have HC:=jJ hcv;clear ht0 hs0 c0 hs1 hb0 hne0 hcv hown hk2 r2 kw2;go_upto_region 6 with fail
 go_wp2_with fail
 rw [HC.o];have HN:=jJ (cZ1 (show w.heap.size<w.heap.size+1 by omega) (show w.heap.size+1≤w2.heap.size by have:=H2.o.2.2.lt;omega));go_upto_region 7 with (go_at_call 179;go_loud (refine (limbs_txt (B:=w.heap.size) H2.o.1 H2.o.2.1.size (HA.o.2.1.move H2.o.2.1 (fun _ _ h=>h.elim) fun _ _ h=>h) (by have h1:=HA.o.r6;have h2:=HT0.o.2.1;omega)).mono ?_;rintro e w3 ⟨v3,rfl,hp⟩;have r3:=H2.o.2.2.keep hp.keep (H2.o.1.ne H2.o.2.2 (by decide));have f4:w3.cell? ⟨w.heap.size,4,none⟩=some (.bool gk):=r3.cell 4;have f5:w3.cell? ⟨w.heap.size,5,none⟩=some (.slice ak nk ck):=r3.cell 5;have hfr:∀b,v2.ownBlock=some b→w.heap.size≤b:=(fun b hb=>(H2.o.1.lt b hb).1);have k3:aA Nil w w3:=H2.o.2.1.newer hp.keep hfr;have H3:=jJ (aI3 hp.own k3 r3);clear hp r3 hfr k3))
 go_upto_region 8 with (go_at_call 179;go_loud (refine (limbs_txt (B:=w.heap.size) H3.o.1 H3.o.2.1.size (HA.o.r4.1.move H3.o.2.1 (fun _ _ h=>h.elim) fun _ _ h=>h) (by have h1:=HA.o.r6;have h2:=HT0.o.2.1;have h3:=dC d;rw [aZ1];omega)).mono ?_;rintro e w4 ⟨v4,rfl,hp⟩;have r4:=H3.o.2.2.keep hp.keep (H3.o.1.ne H3.o.2.2 (by decide));have g3:w4.cell? ⟨w.heap.size,3,none⟩=some (.slice ap np cp):=r4.cell 3;have k4:aA Nil w w4:=H3.o.2.1.newer hp.keep (fun b hb=>(H3.o.1.lt b hb).1);have H4:=jJ (aI3 hp.own k4 r4);clear hp r4 k4))
 clear e1 e2 f4 f5 d0;obtain ⟨t1,ht1⟩:∃t,t=t0++dS d++dS z:=⟨_,rfl⟩;have h4:=H4.o;rw [←ht1] at h4;have hl1:t1.length≤28+32*nlen d.natAbs+32*nlen z.natAbs:=by have h2:=HT0.o.2.1;have h3:=dC d;have h5:=dC z;rw [ht1,aZ1,aZ1];omega
 have hb1:Byt t1:=by rw [ht1];exact (HT0.o.2.2.1.append (byt_numTxt d)).append (byt_numTxt z)
 have hne1:t1≠[]:=by rw [ht1];have:=HT0.o.2.2.2;simp [this]
 have hkt:bA ⟨3,d,⟨l,z⟩,v,q⟩=t1++cA l:=by rw [HA.o.2.2.2.1,ht1,HT0.o.1];simp
 have hlen:l.length=np:=SlOf.len HA.o.r5.1;have hle:=(HA.o.r5.1.ex.elim fun f h=>h.1.le);have hcap:=(HA.o.r5.1.ex.elim fun f h=>h.1.cap);have hI:∀p∈l,-9223372036854775808≤p.1∧p.1≤9223372036854775807:=fun p hp=>by
  obtain ⟨i,hi,rfl⟩:=gZ3 hp;obtain ⟨_,_,_,_,_,_,_,_,_,_,_,_,_,h1,h2⟩:=HA.o.r5.1.at (i:=i) (by omega);rw [pth_lt hi] at h1 h2;exact⟨h1,h2⟩
 have HT1:=jJ (aI6 hl1 hb1 hne1 hkt hlen hI);have HX:=jJ (aI h4.1 h4.2.1);clear h4 hl1 hb1 hne1 hkt ht1 hlen hI H4;go_wp2_with fail
 go_loopw [4,33] (fun u i wr=>∃n:Nat,i=.int .i64 n∧n≤np∧OwnB wr w.heap.size 5 u (t1++cA (l.take n))∧aA Nil w wr) (fun _ i _=>np-(intOf i).toNat)
 case atStart=>exact⟨0,rfl,aZ2 _,by rw [List.take_zero,show cA []=[] from rfl,fZ2];exact HX.o.1,HX.o.2⟩
 case round=>
  obtain ⟨n,rfl,hn1,hown,hkr⟩:=hrel;obtain ⟨t2,ht2⟩:∃t,t=t1++cA (l.take n):=⟨_,rfl⟩;rw [←ht2] at hown;have hl2:t2.length≤t1.length+bulkP (l.take n):=by
   rw [ht2,aZ1];have:=length_partsTxt (l.take n) fun p hp=>HT1.o.r5 p (bZ3 hp);omega
  have hne2:t2≠[]:=by rw [ht2];have:=HT1.o.2.2.1;simp [this]
  have HK:=jJ (aI5 ht2 hown hkr hl2 hne2);clear ht2 hown hkr hl2 hne2;by_cases hnp:n<np
  ·obtain ⟨b,off,g',a',n',c',rfl,hb,-,x0,x1,x2,hzz,i1',i2'⟩:=(HA.o.r5.1.move (M1':=From w.heap.size) (M2':=From w.heap.size) HK.o.2.2.1 (fun _ _ h=>h.elim) (fun _ _ h=>h) (fun _ _ h=>h.elim) fun _ _ h=>h).at hnp;have htk:l.take (n+1)=l.take n++[pth l n]:=by
    have h1:n<l.length:=by rw [HT1.o.r4.1];exact hnp
    rw [List.take_succ_eq_append_getElem h1,pth_lt h1]
   have hbk:bulkP (l.take n)+(24+32*nlen (pth l n).2.natAbs)≤bulkP l:=by
    have h1:=congrArg bulkP htk;rw [bulkP_append] at h1;have h2:=congrArg bulkP (aZ3 (n+1) l);rw [bulkP_append] at h2;simp only [bulkP] at h1;omega
   have HZ:=jJ (aI3 htk hbk hzz);clear htk hbk hzz;generalize pth l n=p at *
   obtain ⟨x,y⟩:=p;simp only at x0 i1' i2';go_upto_region 11 with fail
   have r6:aC (wr.alloc (.cells #[.int .i64 x,.bool g',.slice a' n' c'] 96)) wr.heap.size 96 [.int .i64 x,.bool g',.slice a' n' c']:=aC.alloc;have k6:aA Nil wr (wr.alloc (.cells #[.int .i64 x,.bool g',.slice a' n' c'] 96)):=kOf;generalize wr.alloc (.cells #[.int .i64 x,.bool g',.slice a' n' c'] 96)=wp at *
   have h6:=HK.o.2.1.keepNil k6;have hT6:=tab_up (HA.o.1.keepNil (HK.o.2.2.1.trans k6)).2 (B':=w.heap.size) HA.o.1.1;have hz6:=HZ.o.2.2.move (M2:=From w.heap.size) k6 (fun _ _ h=>h.elim) fun _ _ h=>h;have hs6:=(HK.o.2.2.1.trans k6).size;have hl6:t2.length+(24+32*nlen y.natAbs)≤70368744177100:=by have h1:=HK.o.2.2.2.1;have h2:=HZ.o.2.1;have h3:=HT1.o.1;have h4:=HA.o.r6;simp only at h2;omega
   obtain ⟨x0',x1',x2'⟩:=r6.three;have H6:=jJ (aI7 r6 k6 h6 hT6 hz6 hs6 hl6);clear r6 k6 h6 hT6 hz6 hs6 hl6 x0 x1 x2;go_region_held3 (fun w'=>w'.cell? ⟨wr.heap.size,0,none⟩=some (.int .i64 x)∧w'.cell? ⟨wr.heap.size,1,none⟩=some (.bool g')∧w'.cell? ⟨wr.heap.size,2,none⟩=some (.slice a' n' c')) (go_keep) ((first|(go_at_call 180;go_loud (refine (appendI_any (B:=w.heap.size) x i1' i2' (H6.o.2.2.1.keepNil ((aA.refl Nil wp).drew)) H6.o.r5.1 (by have h1:=H6.o.r6;omega) HK.o.r4 (H6.o.2.2.2.1.on (below_of ((aA.refl Nil wp).drew) (fun _ h=>h.elim) H6.o.r5.1))).mono ?_;rintro e w5 ⟨v5,rfl,hp5⟩;have r7:=(H6.o.1.keep ((aA.refl Nil wp).drew) id).keep hp5.keep ((H6.o.2.2.1.keepNil ((aA.refl Nil wp).drew)).ne (H6.o.1.keep ((aA.refl Nil wp).drew) id) (by decide));obtain ⟨y0,y1,y2⟩:=r7.three;have k5:aA Nil w w5:=(HK.o.2.2.1.trans (H6.o.2.1.trans (aA.refl Nil wp).drew)).newer hp5.keep (fun b hb=>(H6.o.2.2.1.lt b hb).1);have H5:=jJ (aI4 hp5.own k5 r7 (H6.o.r4.1.move (M2:=From w.heap.size) (((aA.refl Nil wp).drew.of_nil (M:=From w.heap.size)).trans (hp5.keep.mono (fun b hb=>(H6.o.2.2.1.lt b hb).1))) (fun _ _ h=>h) fun _ _ h=>h));clear hp5 r7 k5))|(go_at_call 179;go_loud (refine (limbs_txt (B:=w.heap.size) H5.o.1 H5.o.2.1.size H5.o.2.2.2 (by have h1:=H6.o.r6;have h2:=bJ i1' i2';rw [aZ1];omega)).mono ?_;rintro e w8 ⟨v8,rfl,hp8⟩;have r8:=H5.o.2.2.1.keep hp8.keep (H5.o.1.ne H5.o.2.2.1 (by decide));obtain ⟨z0,z1,z2⟩:=r8.three;have k8:aA Nil w w8:=H5.o.2.1.newer hp8.keep (fun b hb=>(H5.o.1.lt b hb).1);have H8:=jJ (aI hp8.own k8);clear hp8 r8 k8))))
   all_goals
    go_wp2
    go_roundw
    case rel=>
     refine ⟨n+1,by go_num,hnp,?_,H8.o.2⟩;rw [HZ.o.1,partsTxt_snoc,←mZ2,←HK.o.1,←mZ2];exact H8.o.1
    case measure=>simp [intOf];omega
  ·have en:np=n:=by omega
   have hcb:=OwnB.text (P:=prog) HK.o.2.1 (by rw [HK.o.1];exact HT1.o.2.1.append (byt_partsTxt _)) HK.o.r4 211 9 underlying211 underlying5 underlying9;have HCB:=jJ hcb;clear hcb;go_wp2_with fail
   rw [HCB.o];go_wp2
   go_ret
   refine ⟨?_,HK.o.2.2.1⟩;rw [HT1.o.2.2.2.1,HK.o.1,eZ1 (by rw [HT1.o.r4.1];omega)];rfl
theorem key4 {nd cd np cp nk ck nq cq:Nat} {q:List Int} (hT:Tab B w) (h:NodeAt Nil w gd ad nd cd ap np cp gk ak nk ck aq nq cq ⟨4,d,⟨l,z⟩,v,q⟩) (hroom:32*nlen d.natAbs+32*nlen z.natAbs+bulkP l≤70368744177000) :
  Calls prog 127 #[.agg #[.int .i64 4,.bool gd,.slice ad nd cd,.slice ap np cp,.bool gk,.slice ak nk ck,.int .i64 v,.slice aq nq cq]] w fun e w'=>e=.returned (.string (strOf (bA ⟨4,d,⟨l,z⟩,v,q⟩)))∧aA Nil w w':=by
 have hkt:bA ⟨4,d,⟨l,z⟩,v,q⟩=bC 4++[32]++(dS d++dS z++cA l):=by
  unfold bA;simp only;rw [if_pos (by simp)]
 have hkI:I64 4:=by unfold I64;omega
 have hzd:ZN (From w.heap.size) w gd ad nd cd d:=h.d.move (aA.refl Nil w) (fun _ _ h=>h.elim) fun b hb hf=>by unfold From at hf;omega
 have hzk:ZN (From w.heap.size) w gk ak nk ck z:=h.t.2.move (aA.refl Nil w) (fun _ _ h=>h.elim) fun b hb hf=>by unfold From at hf;omega
 have hp:cW (From w.heap.size) (From w.heap.size) w ap np cp l:=h.t.1.move (M1':=From w.heap.size) (M2':=From w.heap.size) (aA.refl Nil w) (fun _ _ h=>h.elim) (fun b hb hf=>by unfold From at hf;omega) (fun _ _ h=>h.elim) fun b hb hf=>by unfold From at hf;omega
 have HA:=jJ (aI7 hT hzd hkI hkt hzk hp hroom);clear hT h hkI hkt hzd hzk hp hroom;go_enter func127,ntmps127
 go_upto_region 1 with (fail)
 obtain ⟨w0,e_3,k0,r0⟩:=bx1 w 59 [.int .i64 4,.bool gd,.slice ad nd cd,.slice ap np cp,.bool gk,.slice ak nk ck,.int .i64 v,.slice aq nq cq];rw [e_3];clear e_3;have H0:=jJ (aI k0 r0);have c0:w0.cell? ⟨w.heap.size,0,none⟩=some (.int .i64 4):=r0.cell 0;have hs0:(strOf (bC 4)).size≤21:=by rw [aQ];exact bJ HA.o.2.2.1.1 HA.o.2.2.1.2
 clear k0 r0;go_upto_region 2 with (go_at_call 178;refine (itoa_any HA.o.2.2.1 (HA.o.1.keepNil H0.o.1)).mono ?_;rintro e w1 ⟨rfl,hk1⟩;have r1:=H0.o.2.keep hk1 id;have d0:w1.cell? ⟨w.heap.size,0,none⟩=some (.int .i64 4):=r1.cell 0;have H1:=jJ (aI hk1 r1);clear hk1 r1)
 rw [show strOf (bC 4)++(⟨#[32]⟩:ByteArray)=strOf (bC 4++[32]) from bI _ [32]];obtain ⟨t0,ht0⟩:∃t,t=bC 4++[32]:=⟨_,rfl⟩;rw [←ht0];have hs1:t0.length≤22:=by rw [ht0,aZ1];rw [aQ] at hs0;simp;omega
 have hb0:Byt t0:=by rw [ht0];exact (byt_itoaN _).append fun b hb=>by rw [dZ1.1 hb];omega
 have hne0:t0≠[]:=by rw [ht0];simp
 have hcv:=run_bytes_of_string (P:=prog) w1 9 211 5 (strOf t0) underlying9 underlying211 underlying5;have hw1:w.heap.size≤w1.heap.size:=(H0.o.1.trans H1.o.1).size;have hown:=ownB_conv (w:=w1) (B:=w.heap.size) (E:=5) hb0 hw1 (by unfold maxLen;omega);have hk2:aA Nil w1 (w1.drew.alloc (.cells (bytesRow (strOf t0) (grownCap w1 (strOf t0).size 0 5)) 5 ((bytesRow (strOf t0) (grownCap w1 (strOf t0).size 0 5)).size,(bytesRow (strOf t0) (grownCap w1 (strOf t0).size 0 5)).size+1))):=((aA.refl Nil w1).drew).alloc _;generalize w1.drew.alloc (.cells (bytesRow (strOf t0) (grownCap w1 (strOf t0).size 0 5)) 5 ((bytesRow (strOf t0) (grownCap w1 (strOf t0).size 0 5)).size,(bytesRow (strOf t0) (grownCap w1 (strOf t0).size 0 5)).size+1))=w2 at *
 generalize Value.slice (some ⟨w1.heap.size,0,none⟩) (strOf t0).size (grownCap w1 (strOf t0).size 0 5)=v2 at *
 have r2:=H1.o.2.keep hk2 id;have e1:w2.cell? ⟨w.heap.size,1,none⟩=some (.bool gd):=r2.cell 1;have e2:w2.cell? ⟨w.heap.size,2,none⟩=some (.slice ad nd cd):=r2.cell 2;have kw2:=(H0.o.1.trans H1.o.1).trans hk2;have HT0:=jJ (aI4 ht0 hs1 hb0 hne0);have H2:=jJ (aI3 hown kw2 r2);have HC:=jJ hcv;clear ht0 hs0 c0 hs1 hb0 hne0 hcv hown hk2 r2 kw2;go_upto_region 6 with fail
 go_wp2_with fail
 rw [HC.o];have HN:=jJ (cZ1 (show w.heap.size<w.heap.size+1 by omega) (show w.heap.size+1≤w2.heap.size by have:=H2.o.2.2.lt;omega));go_upto_region 7 with (go_at_call 179;go_loud (refine (limbs_txt (B:=w.heap.size) H2.o.1 H2.o.2.1.size (HA.o.2.1.move H2.o.2.1 (fun _ _ h=>h.elim) fun _ _ h=>h) (by have h1:=HA.o.r6;have h2:=HT0.o.2.1;omega)).mono ?_;rintro e w3 ⟨v3,rfl,hp⟩;have r3:=H2.o.2.2.keep hp.keep (H2.o.1.ne H2.o.2.2 (by decide));have f4:w3.cell? ⟨w.heap.size,4,none⟩=some (.bool gk):=r3.cell 4;have f5:w3.cell? ⟨w.heap.size,5,none⟩=some (.slice ak nk ck):=r3.cell 5;have hfr:∀b,v2.ownBlock=some b→w.heap.size≤b:=(fun b hb=>(H2.o.1.lt b hb).1);have k3:aA Nil w w3:=H2.o.2.1.newer hp.keep hfr;have H3:=jJ (aI3 hp.own k3 r3);clear hp r3 hfr k3))
 go_upto_region 8 with (go_at_call 179;go_loud (refine (limbs_txt (B:=w.heap.size) H3.o.1 H3.o.2.1.size (HA.o.r4.1.move H3.o.2.1 (fun _ _ h=>h.elim) fun _ _ h=>h) (by have h1:=HA.o.r6;have h2:=HT0.o.2.1;have h3:=dC d;rw [aZ1];omega)).mono ?_;rintro e w4 ⟨v4,rfl,hp⟩;have r4:=H3.o.2.2.keep hp.keep (H3.o.1.ne H3.o.2.2 (by decide));have g3:w4.cell? ⟨w.heap.size,3,none⟩=some (.slice ap np cp):=r4.cell 3;have k4:aA Nil w w4:=H3.o.2.1.newer hp.keep (fun b hb=>(H3.o.1.lt b hb).1);have H4:=jJ (aI3 hp.own k4 r4);clear hp r4 k4))
 clear e1 e2 f4 f5 d0;obtain ⟨t1,ht1⟩:∃t,t=t0++dS d++dS z:=⟨_,rfl⟩;have h4:=H4.o;rw [←ht1] at h4;have hl1:t1.length≤28+32*nlen d.natAbs+32*nlen z.natAbs:=by have h2:=HT0.o.2.1;have h3:=dC d;have h5:=dC z;rw [ht1,aZ1,aZ1];omega
 have hb1:Byt t1:=by rw [ht1];exact (HT0.o.2.2.1.append (byt_numTxt d)).append (byt_numTxt z)
 have hne1:t1≠[]:=by rw [ht1];have:=HT0.o.2.2.2;simp [this]
 have hkt:bA ⟨4,d,⟨l,z⟩,v,q⟩=t1++cA l:=by rw [HA.o.2.2.2.1,ht1,HT0.o.1];simp
 have hlen:l.length=np:=SlOf.len HA.o.r5.1;have hle:=(HA.o.r5.1.ex.elim fun f h=>h.1.le);have hcap:=(HA.o.r5.1.ex.elim fun f h=>h.1.cap);have hI:∀p∈l,-9223372036854775808≤p.1∧p.1≤9223372036854775807:=fun p hp=>by
  obtain ⟨i,hi,rfl⟩:=gZ3 hp;obtain ⟨_,_,_,_,_,_,_,_,_,_,_,_,_,h1,h2⟩:=HA.o.r5.1.at (i:=i) (by omega);rw [pth_lt hi] at h1 h2;exact⟨h1,h2⟩
 have HT1:=jJ (aI6 hl1 hb1 hne1 hkt hlen hI);have HX:=jJ (aI h4.1 h4.2.1);clear h4 hl1 hb1 hne1 hkt ht1 hlen hI H4;go_wp2_with fail
 go_loopw [4,33] (fun u i wr=>∃n:Nat,i=.int .i64 n∧n≤np∧OwnB wr w.heap.size 5 u (t1++cA (l.take n))∧aA Nil w wr) (fun _ i _=>np-(intOf i).toNat)
 case atStart=>exact⟨0,rfl,aZ2 _,by rw [List.take_zero,show cA []=[] from rfl,fZ2];exact HX.o.1,HX.o.2⟩
 case round=>
  obtain ⟨n,rfl,hn1,hown,hkr⟩:=hrel;obtain ⟨t2,ht2⟩:∃t,t=t1++cA (l.take n):=⟨_,rfl⟩;rw [←ht2] at hown;have hl2:t2.length≤t1.length+bulkP (l.take n):=by
   rw [ht2,aZ1];have:=length_partsTxt (l.take n) fun p hp=>HT1.o.r5 p (bZ3 hp);omega
  have hne2:t2≠[]:=by rw [ht2];have:=HT1.o.2.2.1;simp [this]
  have HK:=jJ (aI5 ht2 hown hkr hl2 hne2);clear ht2 hown hkr hl2 hne2;by_cases hnp:n<np
  ·obtain ⟨b,off,g',a',n',c',rfl,hb,-,x0,x1,x2,hzz,i1',i2'⟩:=(HA.o.r5.1.move (M1':=From w.heap.size) (M2':=From w.heap.size) HK.o.2.2.1 (fun _ _ h=>h.elim) (fun _ _ h=>h) (fun _ _ h=>h.elim) fun _ _ h=>h).at hnp;have htk:l.take (n+1)=l.take n++[pth l n]:=by
    have h1:n<l.length:=by rw [HT1.o.r4.1];exact hnp
    rw [List.take_succ_eq_append_getElem h1,pth_lt h1]
   have hbk:bulkP (l.take n)+(24+32*nlen (pth l n).2.natAbs)≤bulkP l:=by
    have h1:=congrArg bulkP htk;rw [bulkP_append] at h1;have h2:=congrArg bulkP (aZ3 (n+1) l);rw [bulkP_append] at h2;simp only [bulkP] at h1;omega
   have HZ:=jJ (aI3 htk hbk hzz);clear htk hbk hzz;generalize pth l n=p at *
   obtain ⟨x,y⟩:=p;simp only at x0 i1' i2';go_upto_region 11 with fail
   have r6:aC (wr.alloc (.cells #[.int .i64 x,.bool g',.slice a' n' c'] 96)) wr.heap.size 96 [.int .i64 x,.bool g',.slice a' n' c']:=aC.alloc;have k6:aA Nil wr (wr.alloc (.cells #[.int .i64 x,.bool g',.slice a' n' c'] 96)):=kOf;generalize wr.alloc (.cells #[.int .i64 x,.bool g',.slice a' n' c'] 96)=wp at *
   have h6:=HK.o.2.1.keepNil k6;have hT6:=tab_up (HA.o.1.keepNil (HK.o.2.2.1.trans k6)).2 (B':=w.heap.size) HA.o.1.1;have hz6:=HZ.o.2.2.move (M2:=From w.heap.size) k6 (fun _ _ h=>h.elim) fun _ _ h=>h;have hs6:=(HK.o.2.2.1.trans k6).size;have hl6:t2.length+(24+32*nlen y.natAbs)≤70368744177100:=by have h1:=HK.o.2.2.2.1;have h2:=HZ.o.2.1;have h3:=HT1.o.1;have h4:=HA.o.r6;simp only at h2;omega
   obtain ⟨x0',x1',x2'⟩:=r6.three;have H6:=jJ (aI7 r6 k6 h6 hT6 hz6 hs6 hl6);clear r6 k6 h6 hT6 hz6 hs6 hl6 x0 x1 x2;go_region_held3 (fun w'=>w'.cell? ⟨wr.heap.size,0,none⟩=some (.int .i64 x)∧w'.cell? ⟨wr.heap.size,1,none⟩=some (.bool g')∧w'.cell? ⟨wr.heap.size,2,none⟩=some (.slice a' n' c')) (go_keep) ((first|(go_at_call 180;go_loud (refine (appendI_any (B:=w.heap.size) x i1' i2' (H6.o.2.2.1.keepNil ((aA.refl Nil wp).drew)) H6.o.r5.1 (by have h1:=H6.o.r6;omega) HK.o.r4 (H6.o.2.2.2.1.on (below_of ((aA.refl Nil wp).drew) (fun _ h=>h.elim) H6.o.r5.1))).mono ?_;rintro e w5 ⟨v5,rfl,hp5⟩;have r7:=(H6.o.1.keep ((aA.refl Nil wp).drew) id).keep hp5.keep ((H6.o.2.2.1.keepNil ((aA.refl Nil wp).drew)).ne (H6.o.1.keep ((aA.refl Nil wp).drew) id) (by decide));obtain ⟨y0,y1,y2⟩:=r7.three;have k5:aA Nil w w5:=(HK.o.2.2.1.trans (H6.o.2.1.trans (aA.refl Nil wp).drew)).newer hp5.keep (fun b hb=>(H6.o.2.2.1.lt b hb).1);have H5:=jJ (aI4 hp5.own k5 r7 (H6.o.r4.1.move (M2:=From w.heap.size) (((aA.refl Nil wp).drew.of_nil (M:=From w.heap.size)).trans (hp5.keep.mono (fun b hb=>(H6.o.2.2.1.lt b hb).1))) (fun _ _ h=>h) fun _ _ h=>h));clear hp5 r7 k5))|(go_at_call 179;go_loud (refine (limbs_txt (B:=w.heap.size) H5.o.1 H5.o.2.1.size H5.o.2.2.2 (by have h1:=H6.o.r6;have h2:=bJ i1' i2';rw [aZ1];omega)).mono ?_;rintro e w8 ⟨v8,rfl,hp8⟩;have r8:=H5.o.2.2.1.keep hp8.keep (H5.o.1.ne H5.o.2.2.1 (by decide));obtain ⟨z0,z1,z2⟩:=r8.three;have k8:aA Nil w w8:=H5.o.2.1.newer hp8.keep (fun b hb=>(H5.o.1.lt b hb).1);have H8:=jJ (aI hp8.own k8);clear hp8 r8 k8))))
   all_goals
    go_wp2
    go_roundw
    case rel=>
     refine ⟨n+1,by go_num,hnp,?_,H8.o.2⟩;rw [HZ.o.1,partsTxt_snoc,←mZ2,←HK.o.1,←mZ2];exact H8.o.1
    case measure=>simp [intOf];omega
  ·have en:np=n:=by omega
   have hcb:=OwnB.text (P:=prog) HK.o.2.1 (by rw [HK.o.1];exact HT1.o.2.1.append (byt_partsTxt _)) HK.o.r4 211 9 underlying211 underlying5 underlying9;have HCB:=jJ hcb;clear hcb;go_wp2_with fail
   rw [HCB.o];go_wp2
   go_ret
   refine ⟨?_,HK.o.2.2.1⟩;rw [HT1.o.2.2.2.1,HK.o.1,eZ1 (by rw [HT1.o.r4.1];omega)];rfl
end
structure OkNode (N:aS):Prop where
 kind:2≤N.kind∧N.kind≤8
 var:I64 N.var
 kids:∀x∈N.kids,I64 x
 few:N.kids.length≤16777216
 room:32*nlen N.d.natAbs+32*nlen N.t.k.natAbs+bulkP N.t.parts≤70368744177000
theorem key_any {B:Nat} {w:World} {gd gk:Bool} {ad ap ak aq:Option Addr} {nd cd np cp nk ck nq cq:Nat} {N:aS} (hT:Tab B w) (h:NodeAt Nil w gd ad nd cd ap np cp gk ak nk ck aq nq cq N) (hN:OkNode N) :
  Calls prog 127 #[.agg #[.int .i64 N.kind,.bool gd,.slice ad nd cd,.slice ap np cp,.bool gk,.slice ak nk ck,.int .i64 N.var,.slice aq nq cq]] w fun e w'=>e=.returned (.string (strOf (bA N)))∧aA Nil w w':=by
 obtain ⟨k,d,⟨l,z⟩,v,q⟩:=N;obtain ⟨⟨h1,h2⟩,hv,hq,hf,hr⟩:=hN;have hn:nq≤16777216:=by have:=SlOf.len h.kids;simp only at hf this;omega
 simp only at h1 h2 hv hq hr⊢;by_cases k2:k=2
 ·subst k2;exact key2 hT h hr
 by_cases k3:k=3
 ·subst k3;exact key3 hT h hr
 by_cases k4:k=4
 ·subst k4;exact key4 hT h hr
 by_cases k5:k=5
 ·subst k5;exact key5 hT h hv hq hn
 by_cases k6:k=6
 ·subst k6;exact key6 hT h hv hq hn
 by_cases k7:k=7
 ·subst k7;exact key7 hT h hv hq hn
 ·obtain rfl:k=8:=by omega
  exact key8 hT h hv hq hn
section
def txtLit (t:List Nat):Lit:=.string (t.map UInt8.ofNat)
theorem txtLit_inj {s t:List Nat} (hs:Byt s) (ht:Byt t) (h:txtLit s=txtLit t):s=t:=by
 unfold txtLit at h;have h1:s.map UInt8.ofNat=t.map UInt8.ofNat:=by injection h
 rw [←nats_ofNat hs,h1,nats_ofNat ht]
theorem key_txt {P:Program} {kt:TypeId} (hk:P.underlying kt=some .string) {t:List Nat} (ht:t.length≤maxLen):keyOf P kt (.string (strOf t))=some (txtLit t):=by
 rw [WideMaps.keyOf_string_mk hk (by rw [aQ];exact ht)];simp [txtLit,strOf]
def KMap (P:Program) (kt et:TypeId) (w:World) (b n:Nat) (F:List Nat→Option Nat):Prop:=
 ∃D:DataW Unit,w.ownsMap P kt (plainElem P et) b n D∧∀t,Byt t→Maps.has D (txtLit t)=(F t).isSome∧∀i,F t=some i→D.atKey (txtLit t) (.lit (.int .i64 0))=.lit (.int .i64 i)
theorem KMap.keep {P:Program} {kt et:TypeId} {M:Nat→Prop} {w w':World} {b n:Nat} {F:List Nat→Option Nat} (h:KMap P kt et w b n F) (k:aA M w w') (hn:¬M b):KMap P kt et w' b n F:=by
 obtain ⟨D,q1,q2⟩:=h;refine ⟨D,?_,q2⟩;have hlt:=q1.lt;obtain ⟨es,clock,hb,F,hs,hD⟩:=q1;exact⟨es,clock,(k.block b hlt hn).trans hb,F,hs,hD⟩
theorem KMap.mono {P:Program} {kt et:TypeId} {w:World} {b n n':Nat} {F:List Nat→Option Nat} (h:KMap P kt et w b n F) (hn:n≤n'):KMap P kt et w b n' F:=by obtain ⟨D,q,r⟩:=h;exact⟨D,q.mono hn,r⟩
section
variable {P:Program} (w:World) {ops:Array Oper} {rest:List Oper} {o:Oper} {a:Act} {Q:Exit→Act→World→Prop}
theorem wpList_kmap_look (hg:o.guard=none) (m x:Operand) (t:TypeId) (hop:o.op=Op.lookup t m x true) (kt et:TypeId) (hk:P.underlying kt=some .string) (ht:P.underlying t=some (.map kt et)) (he:P.underlying et=some (.int .i64)) (hz:(zeroValue et).run P w=.ok (.int .i64 0) w)
  (b n:Nat) (F:List Nat→Option Nat) (hm:a.eval m=.map (some b)) (hF:KMap P kt et w b n F) (s:List Nat) (hx:a.eval x=.string (strOf s)) (hs:Byt s) (hl:s.length≤maxLen)
  (hK:∀c:Int,(∀i,F s=some i→c=i)→wpList P ops Q rest (a.put o.dst (.tuple #[.int .i64 c,.bool (F s).isSome])) w):wpList P ops Q (o::rest) a w:=by
 obtain ⟨D,q1,q2⟩:=hF;obtain ⟨r1,r2⟩:=q2 s hs;refine wpList_lookup_own_ok_int w hg m x t hop kt et .i64 (string_keyed hk) ht he hz b n D hm q1 _ (txtLit s) hx (key_txt hk hl) ?_;intro c hc _;rw [r1];refine hK c fun i hi=>?_;have h:=hc.symm.trans (r2 i hi);simp only [DataW.lit.injEq,Lit.int.injEq,true_and] at h;exact h
theorem wpList_kmap_put (hg:o.guard=none) (m x v:Operand) (t:TypeId) (hop:o.op=Op.mapUpdate t m x v) (kt et:TypeId) (hk:P.underlying kt=some .string) (ht:P.underlying t=some (.map kt et)) (he:P.underlying et=some (.int .i64))
  (b n:Nat) (F:List Nat→Option Nat) (hm:a.eval m=.map (some b)) (hF:KMap P kt et w b n F) (hn:n<maxLen) (s:List Nat) (hx:a.eval x=.string (strOf s)) (hs:Byt s) (hl:s.length≤maxLen) (i:Nat) (hi:i≤9223372036854775807) (hv:a.eval v=.int .i64 (i:Int))
  (hK:∀w',KMap P kt et w' b (n+1) (fun t=>if t=s then some i else F t)→aA (One b) w w'→wpList P ops Q rest (a.put o.dst undef) w'):wpList P ops Q (o::rest) a w:=by
 obtain ⟨D,q1,q2⟩:=hF;have hwf:(Lit.int .i64 (i:Int)).wf=true:=WalkArith.wf_i64 (by omega);refine wpList_mapUpdate_own w hg m x v t hop kt et (string_keyed hk) ht (plainElem P et) b n D hm q1 hn _ _ (txtLit s) hx hv (key_txt hk hl) (.lit (.int .i64 i)) [] (plainElem_int he hwf) ?_;intro w' r1 r2;have hM:=(q1.tidy (string_keyed hk)).isMap;refine hK w' ⟨_,r1,fun u hu=>?_⟩ (aA.ofGrown r2);by_cases hus:u=s
 ·subst hus;show _=(if u=u then some i else F u).isSome∧∀j,(if u=u then some i else F u)=some j→_
  rw [if_pos rfl];refine ⟨by rw [Maps.has_put_same hM (show WideAt.IsKeyLit (txtLit u) from trivial)];rfl,fun j hj=>?_⟩;cases hj;exact atKey_put_same hM (show WideAt.IsKeyLit (txtLit u) from trivial) _ _
 ·show _=(if u=s then some i else F u).isSome∧∀j,(if u=s then some i else F u)=some j→_
  rw [if_neg hus];have hne:txtLit u≠txtLit s:=fun e=>hus (txtLit_inj hu hs e);rw [Maps.has_put_other hne];refine ⟨(q2 u hu).1,fun j hj=>?_⟩;rw [atKey_put_other hne];exact (q2 u hu).2 j hj
end
end
end Go.Proofs.Q
