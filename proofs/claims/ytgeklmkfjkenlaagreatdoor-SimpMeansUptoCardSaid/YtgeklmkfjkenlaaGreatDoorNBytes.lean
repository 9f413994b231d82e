/- Bytes of one's own, of which the row may bear a mark behind its cells (what a string turned to bytes leaves): . -/
import Derived.Test.YtgeklmkfjkenlaaGreatDoorNTermOps
import Derived.Test.YtgeklmkfjkenlaaGreatDoorNShelf
set_option linter.unusedSimpArgs false
set_option linter.unusedVariables false
set_option maxRecDepth 100000
set_option maxHeartbeats 4000000
namespace Go.Proofs.Q
open Go.RowKit Tryz
section
variable {l new:List Nat} {E:TypeId} {Q:Exit→Act→World→Prop} {v v1:Value} {B g:Nat} {ops:Array Oper} {rest:List Oper} {o:Oper} {a:Act} {cur:Array Value} {w1 w' w2:World} {xs:List Value} {fz:Nat × Nat} {M:Nat→Prop}
def byteV (b:Nat):Value:=.int .u8 (b:Int)
def OffRow (fz:Nat × Nat) (n:Nat):Prop:=fz=(0,0)∨n≤fz.1
def OwnB (w:World) (B:Nat) (E:TypeId) (v:Value) (l:List Nat):Prop:=
 (v=.slice none 0 0∧l=[])∨∃g cap cur fz,v=.slice (some ⟨g,0,none⟩) l.length cap∧B≤g∧w.heap[g]?=some (.cells cur E fz)∧OffRow fz cur.size∧l.length≤cap∧cap≤maxLen∧cur.size=cap∧cur.toList.take l.length=l.map byteV
theorem OwnB.of_row {w:World} (h:w.ownsRow B E 1 v l.length (l.map byteV)):OwnB w B E v l:=by
 rcases h.2 with ⟨rfl,h0⟩|⟨g,cap,cur,rfl,hb,hg,hnc,hcm,hcs,htake⟩
 ·exact .inl ⟨rfl,fZ1 h0⟩
 ·exact .inr ⟨g,cap,cur,(0,0),rfl,hb,hg,.inl rfl,hnc,hcm,by rw [hcs,Nat.mul_one],by rw [Nat.mul_one] at htake;exact htake⟩
theorem OwnB.lt {w:World} (h:OwnB w B E v l):∀b,v.ownBlock=some b→B≤b∧b<w.heap.size:=fun b hb=>by
 rcases h with ⟨rfl,rfl⟩|⟨g,cap,cur,fz,rfl,hg,hh,-⟩
 ·cases hb
 ·cases hb
  exact⟨hg,(Array.getElem?_eq_some_iff.1 hh).1⟩
theorem OwnB.keep {w:World} (h:OwnB w B E v l) (k:aA M w w') (hn:∀b,v.ownBlock=some b→¬M b):OwnB w' B E v l:=by
 rcases h with h|⟨g,cap,cur,fz,rfl,hg,hh,r⟩
 ·exact .inl h
 ·exact .inr ⟨g,cap,cur,fz,rfl,hg,by rw [k.block g (Array.getElem?_eq_some_iff.1 hh).1 (hn g rfl)];exact hh,r⟩
theorem OwnB.keepNil {w:World} (h:OwnB w B E v l) (k:aA Nil w w'):OwnB w' B E v l:=h.keep k fun _ _=>id
theorem OwnB.ne {w:World} {T:TypeId} (h:OwnB w B E v l) (r:aC w g T xs) (hE:E≠T):¬Own v g:=fun hg=>by
 rcases h with ⟨rfl,-⟩|⟨g',cap,cur,fz,rfl,hb,hg',-⟩
 ·cases hg
 ·obtain rfl:g'=g:=lZ2 hg;have h1:=hg'.symm.trans r.out;simp only [Option.some.injEq,Obj.cells.injEq] at h1;exact hE h1.2.1
theorem OwnB.cells {w:World} (h:OwnB w B E v l) (hg:v.ownBlock=some g):∀j u,(l.map byteV)[j]?=some u→w.cell? ((⟨g,0,none⟩:Addr).add j)=some u:=fun j u hj=>by
 rcases h with ⟨rfl,-⟩|⟨g',cap,cur,fz,rfl,hb,hg',-,-,-,-,ht⟩
 ·cases hg
 ·obtain rfl:g'=g:=lZ2 hg;rw [←ht,List.getElem?_take] at hj;split at hj
  ·rw [Addr.add_lit];simp only [World.cell?,hg',Nat.zero_add];simpa using hj
  ·cases hj
theorem stores_marked (P:Program) (g o:Nat) (t:TypeId) (fz:Nat × Nat):∀(vs:List Value) (i:Nat) (cur:Array Value) (w:World),w.heap[g]?=some (.cells cur t fz)→OffRow fz cur.size→o+i+vs.length≤cur.size→(∀v∈vs,v.oneCell'=true) →
  (storeCells ⟨g,o,none⟩ vs i).run P w=.ok () (w.setRow g (cur.toList.take (o+i)++vs++cur.toList.drop (o+i+vs.length)).toArray)
 | [],i,cur,w,hg,_,_,_=>by
  have e:(cur.toList.take (o+i)++[]++cur.toList.drop (o+i+([]:List Value).length)).toArray=cur:=by simp
  rw [e,setRow_self w g cur t fz hg];rfl
 | v::rest,i,cur,w,hg,hfz,hl,h1=>by
  have hlt:o+i<cur.size:=by simp at hl;omega
  have hadd:(⟨g,o,none⟩:Addr).add i=⟨g,o+i,none⟩:=Addr.add_lit ..;have hcell:w.cell? ⟨g,o+i,none⟩=some cur[o+i]:=by simp [World.cell?,hg,hlt]
  have hfro:w.frozen? ⟨g,o+i,none⟩=false:=by
   rcases hfz with rfl|hfz
   ·simp [World.frozen?,hg]
   ·obtain ⟨lo,hi'⟩:=fz;simp only at hfz;have:¬lo≤o+i:=by omega
    simp [World.frozen?,hg,this]
  have hst:(store ((⟨g,o,none⟩:Addr).add i) v).run P w=.ok () (w.setRow g (cur.setIfInBounds (o+i) v)):=by
   rw [hadd,run_store P w _ v _ (h1 v (by simp)),hcell];simp [hfro,setCell_eq_setRow w g (o+i) cur t fz v hg]
  have ih:=stores_marked P g o t fz rest (i+1) (cur.setIfInBounds (o+i) v) (w.setRow g (cur.setIfInBounds (o+i) v)) (setRow_heap w g cur _ t _ hg) (by simpa using hfz) (by simp at hl⊢;omega) fun x hx=>h1 x (lZ1 _ hx);simp only [storeCells,Sem.run_bind,hst,Result.andThen_ok,ih,setRow_setRow];congr 3;have e:=list_seg_step cur.toList (o+i) v rest (by simp at hl⊢;omega);simpa [Array.toList_setIfInBounds,Nat.add_assoc] using e
structure Put (B:Nat) (E:TypeId) (w:World) (v:Value) (w':World) (v':Value) (l:List Nat):Prop where
 own:OwnB w' B E v' l
 keep:aA (Own v) w w'
 fresh:Fresh w v v'
theorem Put.trans {w:World} {v2:Value} {l1 l2:List Nat} (h:Put B E w v w1 v1 l1) (k:Put B E w1 v1 w2 v2 l2):Put B E w v w2 v2 l2:=by
 refine ⟨k.own,h.keep.trans' k.keep fun b hb=>?_,fun b hb=>?_⟩
 ·rcases h.fresh b hb with h1|h1
  ·exact .inl h1
  ·exact .inr h1
 ·rcases k.fresh b hb with h1|h1
  ·exact h.fresh b h1
  ·exact .inr (bZ1 h.keep.size h1)
theorem Put.start {w:World} (h:OwnB w B E v l) (k:aA Nil w w1):Put B E w v w1 v l:=⟨h.keepNil k,k.of_nil,fun _ h=>.inl h⟩
theorem Put.more {w:World} (h:Put B E w v w1 v1 l) (k:aA Nil w1 w2):Put B E w v w2 v1 l:=h.trans (.start h.own k)
theorem take_put (cur:List Value) (n:Nat) (xs ys rest:List Value) (h:cur.take n=xs) (hn:n≤cur.length):(cur.take n++ys++rest).take (n+ys.length)=xs++ys:=by
 rw [h,List.take_left'];rw [aZ1,←h,iZ1,Nat.min_eq_left hn]
section
variable {P:Program} (w:World)
theorem put_room {cap:Nat} (hB:B≤g) (hg:w.heap[g]?=some (.cells cur E fz)) (hfz:OffRow fz cur.size) (hcm:cap≤maxLen) (hcs:cur.size=cap) (ht:cur.toList.take l.length=l.map byteV) (hroom:l.length+new.length≤cap) :
  Put B E w (.slice (some ⟨g,0,none⟩) l.length cap) (w.setRow g (cur.toList.take l.length++new.map byteV++cur.toList.drop (l.length+new.length)).toArray) (.slice (some ⟨g,0,none⟩) (l.length+new.length) cap) (l++new):=by
 have hsz:(cur.toList.take l.length++new.map byteV++cur.toList.drop (l.length+new.length)).toArray.size=cur.size:=by simp;omega
 refine ⟨.inr ⟨g,cap,_,fz,by rw [aZ1],hB,setRow_heap w g cur _ E _ hg,by rw [hsz];exact hfz,by rw [aZ1];exact hroom,hcm,hsz.trans hcs,?_⟩,⟨rfl,rfl,rfl,by simp [World.setRow],fun k _ hk=>setRow_other w g k _ fun e=>hk (by rw [e];rfl)⟩,fun b hb=>.inl hb⟩;rw [aZ1,cZ2,List.toList_toArray];have:=take_put cur.toList l.length (l.map byteV) (new.map byteV) (cur.toList.drop (l.length+new.length)) ht (by simp;omega);rw [hZ1] at this;exact this
theorem put_grown {cap c:Nat} (hB:B≤w.heap.size) (hc:l.length+new.length≤c) (hcm:c≤maxLen) :
  Put B E w (.slice (some ⟨g,0,none⟩) l.length cap) (w.drew.alloc (.cells ((l.map byteV).toArray++(new.map byteV).toArray++Builtin.zeroCells (Value.int .u8 0).cells (c-(l.length+new.length))) E)) (.slice (some ⟨w.heap.size,0,none⟩) (l.length+new.length) c) (l++new):=by
 have hz1:(Value.int IntKind.u8 0).cells.size=1:=rfl;refine ⟨.inr ⟨w.heap.size,c,_,(0,0),by rw [aZ1],hB,heap_alloc_new w.drew _,.inl rfl,by rw [aZ1];exact hc,hcm,?_,?_⟩,⟨rfl,rfl,rfl,by simp,fun k hk _=>heap_alloc_old w.drew _ hk⟩,fun b hb=>?_⟩
 ·simp only [Array.size_append,List.size_toArray,size_zeroCells,hz1,hZ1];omega
 ·simp only [Array.toList_append];rw [List.take_left' (by simp),←cZ2]
 ·cases hb;exact .inr (bZ2 _)
theorem run_append_ownB (B:Nat) (t ty e:TypeId) (i:TypeInfo) (ht:P.underlying t=some (.slice e)) (hi:P.info? e=some i) (hz:i.zero=some (.int .u8 0)) (hsize:i.size=1) (hby:i.bytes=1)
  (v:Value) (l:List Nat) (hown:OwnB w B e v l) (a:Addr) (c:Nat) (new:List Nat) (hnew:∀j u,(new.map byteV)[j]?=some u→w.cell? (a.add j)=some u) (hl:l.length+new.length≤140737488355328) (hB:B≤w.heap.size) :
  ∃v' w',(Builtin.append_ #[t,t] ty #[v,.slice (some a) new.length c]).run P w=.ok v' w'∧Put B e w v w' v' (l++new):=by
 have h1:∀u∈new.map byteV,u.oneCell'=true:=fun u hu=>by obtain ⟨b,_,rfl⟩:=iZ2.1 hu;rfl
 rcases hown with ⟨rfl,rfl⟩|⟨g,cap,cur,fz,rfl,hbg,hg,hfz,hnc,hcm,hcs,htake⟩
 ·obtain ⟨v',w',r1,r2,r3,r4⟩:=run_append_own (P:=P) w B t ty e i (.int .u8 0) 1 1 ht hi hz hsize hby rfl (by decide) (.slice none 0 0) 0 [] ⟨by simp,.inl ⟨rfl,rfl⟩⟩ a new.length c (new.map byteV) (by simp) hnew h1 (by unfold maxLen;simp at hl;omega) (by simp at hl;omega) hB;exact⟨v',w',r1,.of_row (by simpa using r2),(aA.ofGrownNil r3).of_nil,append_fresh (P:=P) w B t ty e i (.int .u8 0) ht hi hz (.slice none 0 0) 0 [] ⟨by simp,.inl ⟨rfl,rfl⟩⟩ a new.length c (new.map byteV) (by rw [hsize];simp) hnew h1 (by unfold maxLen;simp at hl;omega) (by rw [hby];simp at hl;omega) r1⟩
 ·by_cases hroom:l.length+new.length≤cap
  ·have hf:=run_firstCells_some (P:=P) w i.size new.length a new.length c (new.map byteV) (by rw [hsize];simp) hnew;rw [hsize] at hf;have hst:=stores_marked P g l.length e fz (new.map byteV) 0 cur w hg hfz (by simp;omega) h1;simp only [Nat.add_zero,hZ1] at hst;refine ⟨_,_,?_,put_room w hbg hg hfz hcm hcs htake hroom⟩;simp [Builtin.append_,run_underlying ht,sizeOf,typeInfo,hi,Builtin.lenOf,hroom,hf,Addr.add_lit,hsize,hst]
  ·have holds:∀j u,(l.map byteV)[j]?=some u→w.cell? ((⟨g,0,none⟩:Addr).add j)=some u:=OwnB.cells (v:=.slice (some ⟨g,0,none⟩) l.length cap) (.inr ⟨g,cap,cur,fz,rfl,hbg,hg,hfz,hnc,hcm,hcs,htake⟩) rfl;refine ⟨_,_,run_append_grow (P:=P) w t ty e i (.int .u8 0) ht hi hz ⟨g,0,none⟩ l.length cap (l.map byteV) (by rw [hsize];simp) holds a new.length c (new.map byteV) (by rw [hsize];simp) hnew (by omega) (by omega) (by rw [hby];exact growslice_fits (by omega) (by omega)),?_⟩;exact put_grown w hB (grownCap_ge ..) (grownCap_le_maxLen _ _ _ _ (by unfold maxLen;omega))
theorem wpList_bytes (hgd:o.guard=none) (s x:Operand) (t e:TypeId)
  (ho:o.op=.call { callee:=.builtin .append,args:=#[s,x],argTypes:=#[t,t] }) (i:TypeInfo) (ht:P.underlying t=some (.slice e)) (hi:P.info? e=some i) (hz:i.zero=some (.int .u8 0)) (hsize:i.size=1) (hby:i.bytes=1)
  (B:Nat) (v:Value) (l:List Nat) (hs:a.eval s=v) (hown:OwnB w B e v l) (ad:Addr) (c m:Nat) (new:List Nat) (hx:a.eval x=.slice (some ad) m c) (hm:new.length=m) (hnew:∀j u,(new.map byteV)[j]?=some u→w.cell? (ad.add j)=some u) (hl:l.length+new.length≤140737488355328) (hB:B≤w.heap.size)
  (h:∀v' w',Put B e w v w' v' (l++new)→wpList P ops Q rest (a.put o.dst v') w'):wpList P ops Q (o::rest) a w:=by
 subst hm;refine wpList_plain hgd fun K hK=>?_;obtain ⟨v',w',hr,hp⟩:=run_append_ownB (P:=P) w B t o.type e i ht hi hz hsize hby v l hown ad c new hnew hl hB;unfold Oper.wp execOp;simp only [ho,resolve,invoke,builtin,Sem.run_bind,Sem.run_pure,Result.andThen_ok,List.map_toArray,dZ2,List.map_nil,hs,hx,hr];exact hK _ _ (h v' w' hp)
theorem wpList_byte (hgd:o.guard=none) (s x:Operand) (t e:TypeId)
  (ho:o.op=.call { callee:=.builtin .append,args:=#[s,x],argTypes:=#[t,t] }) (i:TypeInfo) (ht:P.underlying t=some (.slice e)) (hi:P.info? e=some i) (hz:i.zero=some (.int .u8 0)) (hsize:i.size=1) (hby:i.bytes=1)
  (B:Nat) (v:Value) (l:List Nat) (hs:a.eval s=v) (hown:OwnB w B e v l) (b y:Nat) (hx:a.eval x=.slice (some ⟨b,0,none⟩) 1 1) (hrow:aC w b e [.int .u8 (y:Int)]) (hl:l.length≤70368744177663) (hB:B≤w.heap.size)
  (h:∀v' w',Put B e w v w' v' (l++[y])→wpList P ops Q rest (a.put o.dst v') w'):wpList P ops Q (o::rest) a w:=
 wpList_bytes w hgd s x t e ho i ht hi hz hsize hby B v l hs hown ⟨b,0,none⟩ 1 1 [y] hx rfl (fun j u hj=>by rw [Addr.add_lit,hrow.cell];simpa [byteV] using hj) (by simp;omega) hB h
theorem run_append_ownB_str (B:Nat) (t u ty e:TypeId) (i:TypeInfo) (ht:P.underlying t=some (.slice e)) (hu:P.underlying u=some .string) (hi:P.info? e=some i) (hz:i.zero=some (.int .u8 0)) (hsize:i.size=1) (hby:i.bytes=1)
  (v:Value) (l:List Nat) (hown:OwnB w B e v l) (s:ByteArray) (new:List Nat) (hs:Lib.strCells s=new.map byteV) (hl:l.length+new.length≤140737488355328) (hB:B≤w.heap.size) (hv:v≠.slice none 0 0) :
  ∃v' w',(Builtin.append_ #[t,u] ty #[v,.string s]).run P w=.ok v' w'∧Put B e w v w' v' (l++new):=by
 have hsz:s.size=new.length:=by have:=congrArg List.length hs;rw [Lib.strCells_length,hZ1] at this;exact this
 have h1:∀x∈new.map byteV,x.oneCell'=true:=fun x hx=>by obtain ⟨b,_,rfl⟩:=iZ2.1 hx;rfl
 rcases hown with ⟨rfl,rfl⟩|⟨g,cap,cur,fz,rfl,hbg,hg,hfz,hnc,hcm,hcs,htake⟩
 ·exact absurd rfl hv
 ·by_cases hroom:l.length+new.length≤cap
  ·have hf:=Lib.run_firstCells_string (P:=P) w 1 s;have hst:=stores_marked P g l.length e fz (new.map byteV) 0 cur w hg hfz (by simp;omega) h1;simp only [Nat.add_zero,hZ1] at hst;refine ⟨_,_,?_,put_room w hbg hg hfz hcm hcs htake hroom⟩;rw [hs,hsz] at hf;simp [Builtin.append_,run_underlying ht,run_underlying hu,sizeOf,typeInfo,hi,Builtin.lenOf,hsz,hroom,hf,Addr.add_lit,hsize,hst]
  ·have holds:∀j u,(l.map byteV)[j]?=some u→w.cell? ((⟨g,0,none⟩:Addr).add j)=some u:=OwnB.cells (v:=.slice (some ⟨g,0,none⟩) l.length cap) (.inr ⟨g,cap,cur,fz,rfl,hbg,hg,hfz,hnc,hcm,hcs,htake⟩) rfl;have hr:=Lib.run_append_grow_string (P:=P) w t u ty e i (.int .u8 0) ht hu hi hz ⟨g,0,none⟩ l.length cap (l.map byteV) (by rw [hsize];simp) holds s (by omega) (by omega) (by rw [hby];exact growslice_fits (by omega) (by omega));rw [hs,hsz] at hr;exact⟨_,_,hr,put_grown w hB (grownCap_ge ..) (grownCap_le_maxLen _ _ _ _ (by unfold maxLen;omega))⟩
theorem wpList_bytes_str (hgd:o.guard=none) (sl x:Operand) (t u e:TypeId)
  (ho:o.op=.call { callee:=.builtin .append,args:=#[sl,x],argTypes:=#[t,u] }) (i:TypeInfo) (ht:P.underlying t=some (.slice e)) (hu:P.underlying u=some .string) (hi:P.info? e=some i) (hz:i.zero=some (.int .u8 0)) (hsize:i.size=1) (hby:i.bytes=1)
  (B:Nat) (v:Value) (l:List Nat) (hs:a.eval sl=v) (hown:OwnB w B e v l) (s:ByteArray) (new:List Nat) (hx:a.eval x=.string s) (hnew:Lib.strCells s=new.map byteV) (hl:l.length+new.length≤140737488355328) (hB:B≤w.heap.size) (hv:v≠.slice none 0 0)
  (h:∀v' w',Put B e w v w' v' (l++new)→wpList P ops Q rest (a.put o.dst v') w'):wpList P ops Q (o::rest) a w:=by
 refine wpList_plain hgd fun K hK=>?_;obtain ⟨v',w',hr,hp⟩:=run_append_ownB_str (P:=P) w B t u o.type e i ht hu hi hz hsize hby v l hown s new hnew hl hB hv;unfold Oper.wp execOp;simp only [ho,resolve,invoke,builtin,Sem.run_bind,Sem.run_pure,Result.andThen_ok,List.map_toArray,dZ2,List.map_nil,hs,hx,hr];exact hK _ _ (h v' w' hp)
end
end
def dg36 (d:Nat):Nat:=if d<10 then 48+d else 87+d
def d36 (u:Nat):List Nat:=if h:u<36 then [dg36 u] else d36 (u / 36)++[dg36 (u % 36)]
termination_by u
decreasing_by omega
theorem d36_small {u:Nat} (h:u<36):d36 u=[dg36 u]:=by rw [d36,dif_pos h]
theorem d36_big {u:Nat} (h:¬u<36):d36 u=d36 (u / 36)++[dg36 (u % 36)]:=by rw [d36,dif_neg h]
theorem length_d36:∀(k u:Nat),u<36*2 ^ k→(d36 u).length≤k+1
 | 0,u,h=>by rw [d36_small (by simpa using h)];simp
 | k+1,u,h=>by
  by_cases hu:u<36
  ·rw [d36_small hu];simp
  ·rw [d36_big hu,aZ1];have:=length_d36 k (u / 36) (by rw [Nat.pow_succ] at h;omega);simp only [gZ1,gZ2];omega
section
variable {cs:List Value} {l:List Nat} {w:World} {v:Value} {B u i:Nat}
theorem info_byte:(prog.info? 5).map (fun i=>(i.zero,i.size,i.bytes))=some (some (.int .u8 0),1,1):=by kernel_rfl
def B36:ByteArray:=⟨#[48,49,50,51,52,53,54,55,56,57,97,98,99,100,101,102,103,104,105,106,107,108,109,110,111,112,113,114,115,116,117,118,119,120,121,122]⟩
theorem B36_at:∀i:Fin 36,(B36[i.val]'i.isLt).toNat=dg36 i.val:=by decide
theorem idx_36 (w:World) (d:Nat) (h:d<36):(Instr.index 9 (.string B36) (.int .u64 (d:Int))).run prog w=.ok (.int .u8 (dg36 d:Int)) w:=by
 rw [run_index_string w 9 _ .u64 _ underlying9,dif_pos ⟨by omega,by show (d:Int)<36;omega⟩];have e:((d:Int)).toNat=d:=by omega
 simp only [e];exact congrArg (fun (n:Nat)=>Result.ok (Value.int .u8 (n:Int)) w) (B36_at ⟨d,h⟩)
theorem pow2_36 (w:World):Calls prog 262 #[.int .i64 36] w fun e w'=>e=.returned (.bool false)∧aA Nil w w':=by
 have hb:bits BinOp.and IntKind.i64 36 35=32:=by decide
 go_enter func262,ntmps262
 go_wp2
 go_ret
 exact⟨rfl,aA.refl Nil w⟩
structure Laid (u i v:Nat) (cs:List Value) (tail:List Nat):Prop where
 size:cs.length=65
 le:i≤65
 drop:cs.drop i=tail.map byteV
 all:d36 v++tail=d36 u
 fit:v*2 ^ (65-i)≤u
theorem Laid.start (h:cs.length=65):Laid u 65 u cs []:=⟨h,bZ2 _,by simp [←h],by simp,by simp⟩
theorem drop_set {β:Type} (l:List β) (i:Nat) (x:β) (h:i<l.length):(l.set i x).drop i=x::l.drop (i+1):=by
 rw [List.drop_set,if_neg (by omega),Nat.sub_self];rw [List.drop_eq_getElem_cons h];rfl
theorem Laid.pos {v:Nat} {tail:List Nat} (h:Laid u i v cs tail) (hu:u<2 ^ 64) (hv:0<v∨i=65):0<i:=by
 rcases hv with hv|rfl
 ·rcases Nat.eq_zero_or_pos i with rfl|h0
  ·have h1:=h.fit;have h2:1*2 ^ (65-0)≤v*2 ^ (65-0):=Nat.mul_le_mul_right _ hv;omega
  ·exact h0
 ·omega
theorem Laid.step {v:Nat} {tail:List Nat} (h:Laid u (i+1) v cs tail) (hv:¬v<36):Laid u i (v / 36) (cs.set i (.int .u8 (dg36 (v % 36):Int))) (dg36 (v % 36)::tail):=by
 refine ⟨by rw [List.length_set];exact h.size,by have:=h.le;omega,?_,?_,?_⟩
 ·rw [drop_set _ _ _ (by rw [h.size];have:=h.le;omega),h.drop];rfl
 ·rw [←h.all,d36_big hv,mZ2];rfl
 ·have h1:=h.fit;have h2:=h.le;rw [show 65-i=(65-(i+1))+1 by omega,Nat.pow_succ];have h3:v / 36*(2 ^ (65-(i+1))*2)=(v / 36*2)*2 ^ (65-(i+1)):=by rw [Nat.mul_comm (2 ^ _) 2,←Nat.mul_assoc]
  rw [h3];exact bZ1 (Nat.mul_le_mul_right _ (by omega)) h1
theorem Laid.last {v:Nat} {tail:List Nat} (h:Laid u (i+1) v cs tail) (hv:v<36):(cs.set i (.int .u8 (dg36 v:Int))).drop i=(d36 u).map byteV:=by
 rw [drop_set _ _ _ (by rw [h.size];have:=h.le;omega),h.drop,←h.all,d36_small hv];rfl
theorem formatBits_any (u:Nat) (hu:u<2 ^ 64) (h:OwnB w B 5 v l) (hB:B≤w.heap.size) (hl:l.length≤70368744177664) :
  Calls prog 255 #[v,.int .u64 (u:Int),.int .i64 36,.bool false,.bool true] w fun e w'=>∃v',e=.returned (.tuple #[v',.string ⟨#[]⟩])∧Put B 5 w v w' v' (l++d36 u):=by
 have HH:=jJ (aI h hl);have hx:=fun w d h=>idx_36 w d h;clear h hl;go_enter func255,ntmps255
 rw [show (⟨#[48,49,50,51,52,53,54,55,56,57,97,98,99,100,101,102,103,104,105,106,107,108,109,110,111,112,113,114,115,116,117,118,119,120,121,122]⟩:ByteArray)=B36 from rfl];go_upto_region 4 with fail
 rw [show Tryz.zeroCells268=(List.replicate 65 (Value.int .u8 0)).toArray by kernel_rfl];have r0:aC (w.alloc (.cells (List.replicate 65 (Value.int .u8 0)).toArray 268)) w.heap.size 268 (List.replicate 65 (Value.int .u8 0)):=aC.alloc;have k0:aA Nil w (w.alloc (.cells (List.replicate 65 (Value.int .u8 0)).toArray 268)):=kOf;generalize w.alloc (.cells (List.replicate 65 (Value.int .u8 0)).toArray 268)=w0 at *
 have H0:=jJ (aI r0 k0);clear r0 k0;go_upto_region 17 with (go_at_call 262;refine (pow2_36 _).mono ?_;rintro e w1 ⟨rfl,hk1⟩;have H1:=jJ hk1;clear hk1)
 go_wp2_with fail
 go_loopw [13,1] (fun i u' wr=>∃(k t:Nat) (cs:List Value) (tail:List Nat),i=.int .i64 k∧u'=.int .u64 t∧Laid u k t cs tail∧(0<t∨k=65)∧aC wr w.heap.size 268 cs∧aA Nil w wr) (fun i u' _=>(intOf u').toNat)
 case atStart=>exact⟨65,u,_,[],rfl,rfl,Laid.start (by simp),.inr rfl,H0.o.1.keep H1.o id,H0.o.2.trans H1.o⟩
 case round=>
  obtain ⟨k,t,cs,tail,rfl,rfl,hlaid,htk,hrow,hkk⟩:=hrel;obtain ⟨k,rfl⟩:∃k',k=k'+1:=⟨k-1,by have:=hlaid.pos hu htk;omega⟩;have hk65:=hlaid.le;have ht64:t<18446744073709551616:=by have:=hlaid.fit;have h2:t*1≤t*2 ^ (65-(k+1)):=Nat.mul_le_mul_left _ (Nat.pow_pos (by omega));omega
  have c0:=hrow.cell k;have f0:=hrow.frozen k;obtain ⟨old,ho⟩:∃v0,cs[k]?=some v0:=⟨_,jZ2 (show k<cs.length by rw [hlaid.size];omega)⟩;rw [ho] at c0;clear ho;have HL:=jJ (aI3 hlaid hrow hkk);clear hlaid htk hrow hkk;by_cases ht:t<36
  ·have hi:∀W,(Instr.index 9 (.string B36) (.int .u64 (t:Int))).run prog W=.ok (.int .u8 (dg36 t:Int)) W:=fun W=>idx_36 W t ht;clear hx;have hal:prog.arrayLen 268=65:=by simp [Program.arrayLen,underlying268]
   have hsl:∀W,(Instr.sliceAt 268 (.pointer (some ⟨w.heap.size,0,none⟩)) (some (.int .i64 (k:Int))) none none).run prog W=.ok (.slice (some ⟨w.heap.size,k,none⟩) (65-k) (65-k)) W:=fun W=>by
    rw [run_sliceAt_array_l W 268 ⟨w.heap.size,0,none⟩ (by simp [Program.arrayLen,Program.elem,underlying268]) .i64 (k:Int) (by omega) (by rw [hal];omega)];go_simp
    omega
   have hrow:=HL.o.2.1.set k (.int .u8 (dg36 t:Int));have hdrop:=HL.o.1.last ht;have hkw:aA Nil w (wr.setCell ⟨w.heap.size,k,none⟩ (.int .u8 (dg36 t:Int))):=HL.o.2.2.own (bZ2 _) ((aA.refl (One w.heap.size) wr).set1 k _);have hlen:=HL.o.1.size;have hlen':(d36 u).length=65-k:=by
    have h1:=congrArg List.length hdrop;rw [eZ3,List.length_set,hlen,hZ1] at h1;exact h1.symm
   have HZ:=jJ (aI4 hrow hdrop hkw hlen');clear hlen';obtain ⟨i1,hi1⟩:=info_parts info_byte;have HI:=jJ hi1;clear hrow hdrop hkw hlen hi1 hal;go_upto_region 29 with fail
   generalize wr.setCell ⟨w.heap.size,k,none⟩ (.int .u8 (dg36 t:Int))=wz at *
   go_wp2_with (at_builtin;refine wpList_bytes _ rfl _ _ 217 5 rfl i1 underlying217 HI.o.1 HI.o.2.1 HI.o.2.2.1 HI.o.2.2.2 B v l rfl (HH.o.1.keepNil HZ.o.2.2.1) ⟨w.heap.size,k,none⟩ (65-k) (65-k) (d36 u) rfl HZ.o.2.2.2 ?l2 ?l3 (bZ1 hB HZ.o.2.2.1.size) ?_)
   case l2=>
    intro j x hj;rw [←HZ.o.2.1,List.getElem?_drop] at hj;rw [Addr.add_lit,HZ.o.1.cell];exact hj
   case l3=>have h1:=HH.o.2;have h2:=HZ.o.2.2.2;omega
   intro v2 w3 hp;have HF:=jJ ((Put.start HH.o.1 HZ.o.2.2.1).trans hp);clear hp;go_wp2
   exact bodyPost_ret (v:=.tuple #[v2,.string ⟨#[]⟩]) (by simp [results,results255,go_sem]) rfl ⟨v2,rfl,HF.o⟩
  ·have hi:∀W,(Instr.index 9 (.string B36) (.int .u64 ((t:Int)-(t:Int) / 36*36))).run prog W=.ok (.int .u8 (dg36 (t % 36):Int)) W:=fun W=>by
    rw [show (t:Int)-(t:Int) / 36*36=((t % 36:Nat):Int) by omega];exact idx_36 W _ (Nat.mod_lt _ (by omega))
   clear hx;go_wp2_with fail
   go_roundw
   case rel=>exact⟨k,t / 36,_,_,rfl,by go_num,HL.o.1.step ht,.inl (by omega),HL.o.2.1.set k _,HL.o.2.2.own (bZ2 _) ((aA.refl (One w.heap.size) wr).set1 k _)⟩
   case measure=>simp [intOf];omega
theorem iappendUint_any (u:Nat) (hu:u<2 ^ 64) (h:OwnB w B 5 v l) (hB:B≤w.heap.size) (hl:l.length≤70368744177664) :
  Calls prog 239 #[v,.int .u64 (u:Int),.int .i64 36] w fun e w'=>∃v',e=.returned v'∧Put B 5 w v w' v' (l++d36 u):=by
 have HH:=jJ (aI h hl);clear h hl;go_enter func239,ntmps239
 go_wp2_with (go_at_call 255;refine (formatBits_any u hu HH.o.1 hB HH.o.2).mono ?_;rintro e w1 ⟨v',rfl,ho⟩;have HF:=jJ ho;clear ho)
 go_ret
 exact⟨_,rfl,HF.o⟩
theorem appendUint_any (u:Nat) (hu:u<2 ^ 64) (h:OwnB w B 5 v l) (hB:B≤w.heap.size) (hl:l.length≤70368744177664) :
  Calls prog 223 #[v,.int .u64 (u:Int),.int .i64 36] w fun e w'=>∃v',e=.returned v'∧Put B 5 w v w' v' (l++d36 u):=by
 have HH:=jJ (aI h hl);clear h hl;go_enter func223,ntmps223
 go_wp2_with (go_at_call 239;refine (iappendUint_any u hu HH.o.1 hB HH.o.2).mono ?_;rintro e w1 ⟨v',rfl,ho⟩;have HF:=jJ ho;clear ho)
 go_ret
 exact⟨_,rfl,HF.o⟩
end
def From (B:Nat):Nat→Prop:=fun b=>B≤b
def magTxt (l:List Nat):List Nat:=l.flatMap fun x=>32::d36 x
def dP (z:Int):List Nat:=58::((if neg z then [45] else [])++(magTxt (bC z.natAbs)++[59]))
theorem Put.zn {B:Nat} {E:TypeId} {w w1:World} {v v1:Value} {l:List Nat} {g:Bool} {a:Option Addr} {n c:Nat} {z:Int} (h:Put B E w v w1 v1 l) (ho:∀b,v.ownBlock=some b→B≤b) (hB:B≤w.heap.size) (hz:ZN (From B) w g a n c z):ZN (From B) w1 g a n c z:=hz.move h.keep (fun b _ hb=>ho b hb) fun _ _ h=>h
theorem magTxt_snoc (l:List Nat) (x:Nat):magTxt (l++[x])=magTxt l++(32::d36 x):=by simp [magTxt]
theorem length_magTxt:∀(l:List Nat),(∀x∈l,x<4294967296)→(magTxt l).length≤29*l.length
 | [],_=>by simp [magTxt]
 | x::l,h=>by
  have h1:=length_magTxt l fun y hy=>h y (lZ1 _ hy);have h2:=length_d36 27 x (by have:=h x (kZ1 ..);omega);rw [show magTxt (x::l)=(32::d36 x)++magTxt l from rfl,aZ1,gZ1,gZ1];omega
theorem limbs_txt {B:Nat} {w:World} {v:Value} {l:List Nat} {g:Bool} {a:Option Addr} {n c:Nat} {z:Int} (h:OwnB w B 5 v l) (hB:B≤w.heap.size) (hz:ZN (From B) w g a n c z) (hl:l.length+32*nlen z.natAbs+8≤70368744177600) :
  Calls prog 191 #[v,.agg #[.bool g,.slice a n c]] w fun e w'=>∃v',e=.returned v'∧Put B 5 w v w' v' (l++dP z):=by
 have hnl:n=nlen z.natAbs:=hz.2.len.symm;have hsl:=hz.2.sl;have HA:=jJ (aI4 h hz hl hnl);have HG:=jJ hz.1;clear h hz hl hnl hsl;obtain ⟨i1,hi1⟩:=info_parts info_byte;have HI:=jJ hi1;clear hi1;have hob:∀b,v.ownBlock=some b→B≤b:=fun b hb=>(HA.o.1.lt b hb).1;go_enter func191,ntmps191
 go_upto_region 1 with (fail)
 obtain ⟨w0,e_1,k0,r0⟩:=bx1 w 41 [.bool g,.slice a n c];rw [e_1];clear e_1;have H0:=jJ (aI k0 r0);clear k0 r0;go_upto_region 2 with (at_builtin;go_loud (refine wpList_byte _ rfl _ _ 217 5 rfl i1 underlying217 HI.o.1 HI.o.2.1 HI.o.2.2.1 HI.o.2.2.2 B v l rfl (HA.o.1.keepNil (H0.o.1.trans (c:=w0.alloc (.cells #[.int .u8 58] 5)) kOf)) w0.heap.size 58 rfl aC.alloc (by have:=HA.o.2.2.1;omega) (bZ1 hB (H0.o.1.trans (c:=w0.alloc (.cells #[.int .u8 58] 5)) kOf).size) ?_;intro v1 w1 hp;have r1:=(H0.o.2.keep (M:=Nil) (w':=w0.alloc (.cells #[.int .u8 58] 5)) kOf id).keep hp.keep ((HA.o.1.keepNil (H0.o.1.trans (c:=w0.alloc (.cells #[.int .u8 58] 5)) kOf)).ne (H0.o.2.keep (M:=Nil) (w':=w0.alloc (.cells #[.int .u8 58] 5)) kOf id) (by decide));have hp1:Put B 5 w v w1 v1 (l++[58]):=(Put.start HA.o.1 (H0.o.1.trans (c:=w0.alloc (.cells #[.int .u8 58] 5)) kOf)).trans hp;obtain ⟨c0,c1,-,-⟩:=r1.two;have H1:=jJ (aI hp1 r1);clear hp hp1 r1))
 go_upto_if 11 with (fail)
 go_cut [0] (fun u wx=>Put B 5 w v wx u (l++58::(if neg z then [45] else []))∧aC wx w.heap.size 41 [.bool g,.slice a n c])
 case first=>
  cases g
  ·go_wp2_with fail
   go_meet
   have e:neg z=false:=HG.o.symm;exact⟨by rw [e];exact H1.o.1,H1.o.2⟩
  ·go_wp2_with (at_builtin;go_loud (refine wpList_byte _ rfl _ _ 217 5 rfl i1 underlying217 HI.o.1 HI.o.2.1 HI.o.2.2.1 HI.o.2.2.2 B v1 (l++[58]) rfl (H1.o.1.own.keepNil (w':=w1.alloc (.cells #[.int .u8 45] 5)) kOf) w1.heap.size 45 rfl aC.alloc (by have:=HA.o.2.2.1;rw [aZ1];simp only [gZ1,gZ2];omega) (bZ1 hB (bZ1 H1.o.1.keep.size (by simp))) ?_;intro v2 w2 hp;have r2:=(H1.o.2.keep (M:=Nil) (w':=w1.alloc (.cells #[.int .u8 45] 5)) kOf id).keep hp.keep ((H1.o.1.own.keepNil (w':=w1.alloc (.cells #[.int .u8 45] 5)) kOf).ne (H1.o.2.keep (M:=Nil) (w':=w1.alloc (.cells #[.int .u8 45] 5)) kOf id) (by decide));have hp2:Put B 5 w v w2 v2 (l++[58]++[45]):=(H1.o.1.more (w2:=w1.alloc (.cells #[.int .u8 45] 5)) kOf).trans hp;have H2:=jJ (aI hp2 r2);clear hp hp2 r2))
   go_meet
   have e:neg z=true:=HG.o.symm;exact⟨by rw [e];have:=H2.o.1;rw [mZ2] at this;exact this,H2.o.2⟩
 case rest=>
  rename World=>wx;obtain ⟨hpx,rx⟩:=hcut;obtain ⟨d0,d1,-,-⟩:=rx.two;obtain ⟨pre,hpre⟩:∃p,p=l++58::(if neg z then [45] else []):=⟨_,rfl⟩;rw [←hpre] at hpx;have hpl:pre.length≤l.length+2:=by rw [hpre,aZ1,gZ1];split<;>simp
  have hzx:=hpx.zn hob hB HA.o.2.1;have hcap:=hzx.2.sl.cap;have hle:=hzx.2.sl.le;have HX:=jJ (aI4 hpx hpl hzx hpre);obtain ⟨L,hL⟩:∃L,L=bC z.natAbs:=⟨_,rfl⟩;have hLn:L.length=n:=by rw [hL];exact hzx.2.len
  have hLx:=HA.o.2.1.2;rw [←hL] at hLx;have HLX:=jJ (aI3 hL hLn hLx);clear hpx rx hpl hzx c0 c1 hpre hL hLn hLx;go_wp2_with fail
  go_loopw [0,18] (fun u i wr=>∃k:Nat,i=.int .i64 k∧k≤n∧Put B 5 w v wr u (pre++magTxt (L.take k))) (fun _ i _=>n-(intOf i).toNat)
  case atStart=>exact⟨0,rfl,aZ2 _,by rw [List.take_zero,show magTxt []=[] from rfl,fZ2];exact HX.o.1⟩
  case round=>
   obtain ⟨k,rfl,hk,hput⟩:=hrel;have hlen:(pre++magTxt (L.take k)).length≤l.length+2+29*k:=by
    have h1:=length_magTxt (L.take k) fun x hx=>HLX.o.2.2.lt x (bZ3 hx);rw [aZ1];have h2:=HX.o.2.1;have h3:(L.take k).length≤k:=by rw [iZ1];exact Nat.min_le_left _ _
    omega
   have hroom:l.length+2+29*n+2≤70368744177600:=by have h1:=HA.o.2.2;omega
   obtain ⟨txt,htxt⟩:∃t,t=pre++magTxt (L.take k):=⟨_,rfl⟩;rw [←htxt] at hput hlen;have hBr:B≤wr.heap.size:=bZ1 hB hput.keep.size;have HK:=jJ (aI4 hput hlen hroom htxt);clear hput hlen hroom htxt;by_cases hkn:k<n
   ·have hLr:=HLX.o.2.2.move HK.o.1.keep (M2:=From B) (fun b _ hb=>hob b hb) fun _ _ h=>h;obtain ⟨b,off,rfl,hb,hnb,hc⟩:=hLr.cell hkn;have hx32:lim L k<4294967296:=by
     have h1:k<L.length:=by rw [HLX.o.2.1];exact hkn
     rw [show lim L k=L[k] by simp [lim,List.getD,h1]];exact HLX.o.2.2.lt _ (List.getElem_mem h1)
    have htk:L.take (k+1)=L.take k++[lim L k]:=by
     have h1:k<L.length:=by rw [HLX.o.2.1];exact hkn
     rw [List.take_succ_eq_append_getElem h1,show lim L k=L[k] by simp [lim,List.getD,h1]]
    have HT:=jJ htk;clear hLr htk;generalize lim L k=x at *
    go_wp2_with (first|(at_builtin;go_loud (refine wpList_byte _ rfl _ _ 217 5 rfl i1 underlying217 HI.o.1 HI.o.2.1 HI.o.2.2.1 HI.o.2.2.2 B _ txt rfl (HK.o.1.own.keepNil (w':=wr.alloc (.cells #[.int .u8 32] 5)) kOf) wr.heap.size 32 rfl aC.alloc (by have h1:=HK.o.2.1;have h2:=HK.o.2.2.1;omega) (bZ1 hBr (by simp)) ?_;intro v2 w2 hp;have hp2:=(HK.o.1.more (w2:=wr.alloc (.cells #[.int .u8 32] 5)) kOf).trans hp;have H2:=jJ hp2;clear hp hp2))|(go_at_call 223;go_loud (refine (appendUint_any x (by omega) H2.o.own (bZ1 hB H2.o.keep.size) (by rw [aZ1];have h1:=HK.o.2.1;have h2:=HK.o.2.2.1;simp only [gZ1,gZ2];omega)).mono ?_;rintro e w3 ⟨v3,rfl,ho3⟩;have hp3:Put B 5 w v w3 v3 (txt++[32]++d36 x):=H2.o.trans ho3;have H3:=jJ hp3;clear ho3 hp3)))
    go_roundw
    case rel=>
     refine ⟨k+1,by go_num,hkn,?_⟩;rw [HT.o,magTxt_snoc,←mZ2,←HK.o.2.2.2,show (32::d36 x:List Nat)=[32]++d36 x from rfl,←mZ2];exact H3.o
    case measure=>simp [intOf];omega
   ·have ekn:n=k:=by omega
    go_wp2_with (at_builtin;go_loud (refine wpList_byte _ rfl _ _ 217 5 rfl i1 underlying217 HI.o.1 HI.o.2.1 HI.o.2.2.1 HI.o.2.2.2 B _ txt rfl (HK.o.1.own.keepNil (w':=wr.alloc (.cells #[.int .u8 59] 5)) kOf) wr.heap.size 59 rfl aC.alloc (by have h1:=HK.o.2.1;have h2:=HK.o.2.2.1;omega) (bZ1 hBr (by simp)) ?_;intro v2 w2 hp;have hp2:=(HK.o.1.more (w2:=wr.alloc (.cells #[.int .u8 59] 5)) kOf).trans hp;have H2:=jJ hp2;clear hp hp2))
    go_ret
    refine ⟨_,rfl,?_⟩;have h1:=H2.o;rw [HK.o.2.2.2,HX.o.2.2.2,eZ1 (by rw [HLX.o.2.1];omega),HLX.o.1] at h1;rw [dP];simpa using h1
def nats (l:List UInt8):List Nat:=l.map (·.toNat)
def decN (u:Nat):List Nat:=nats (Lib.decDigits u)
def bB (i:Int):List Nat:=nats (Lib.itoa i)
theorem nats_byteV (l:List UInt8):(nats l).map byteV=l.map fun b=>Value.int .u8 (b.toNat:Int):=by simp [nats,byteV]
theorem strCells_nats (l:List UInt8):Lib.strCells ⟨l.toArray⟩=(nats l).map byteV:=by rw [nats_byteV,Lib.strCells]
theorem OwnB.notNil {w:World} {B:Nat} {E:TypeId} {v:Value} {l:List Nat} (h:OwnB w B E v l) (hl:l≠[]):v≠.slice none 0 0:=fun e=>by
 rcases h with ⟨-,rfl⟩|⟨g,cap,cur,fz,rfl,-⟩
 ·exact hl rfl
 ·cases e
theorem keeps_grow (w:World) (k:Nat) (os:Array Obj):aA Nil w («Sort».grow (w.drewN k) os):=by
 refine ⟨rfl,rfl,rfl,by simp [«Sort».grow],fun j hj _=>?_⟩;show (w.heap++os)[j]?=w.heap[j]?
 rw [Array.getElem?_append_left hj]
theorem below_of {M:Nat→Prop} {w w':World} {B:Nat} (k:aA M w w') (hM:∀b,M b→B≤b) (hB:B≤w.heap.size):Below B w w':=by
 exact⟨k.os,k.tape,k.output,k.size,fun j hj=>k.block j (cZ1 hj hB) fun h=>by have:=hM j h;omega⟩
theorem length_decN {u:Nat} (h:u<18446744073709551616):(decN u).length≤20:=by
 rw [decN,nats,hZ1,Lib.decDigits_length];rcases Nat.eq_zero_or_pos u with rfl|h0
 ·rw [Lib.nDigits_small (by omega)];omega
 ·have:=Lib.numDigits_eq u h0 h;split at this<;>omega
section
variable {l:List Nat} {w:World} {v:Value} {B:Nat}
theorem appendU10_small (u:Nat) (hu:u<100) (h:OwnB w B 5 v l) (hB:B≤w.heap.size) (hl:l.length≤70368744177664) (h0:l≠[]) :
  Calls prog 239 #[v,.int .u64 (u:Int),.int .i64 10] w fun e w'=>∃v',e=.returned v'∧Put B 5 w v w' v' (l++decN u):=by
 have HH:=jJ (aI3 h hl h0);clear h hl h0;obtain ⟨i1,hi1⟩:=info_parts info_byte;have HI:=jJ hi1;clear hi1;have hlen:=length_decN (u:=u) (by omega);go_enter func239,ntmps239
 go_wp2_with (first
  | (go_at_call 252;refine (Tryz.internal_strconv_small u hu _).mono ?_;rintro e w' ⟨rfl,rfl⟩)
  | (at_builtin;refine wpList_bytes_str _ rfl _ _ 217 9 5 rfl i1 underlying217 underlying9 HI.o.1 HI.o.2.1 HI.o.2.2.1 HI.o.2.2.2 B v l rfl HH.o.1 ⟨(Lib.decDigits u).toArray⟩ (decN u) rfl (strCells_nats _) (by have h1:=HH.o.2.1;omega) hB (HH.o.1.notNil HH.o.2.2) ?_;intro v2 w2 hp;have HP:=jJ hp;clear hp))
 go_ret
 exact⟨_,rfl,HP.o⟩
theorem appendU10_big (u:Nat) (hu:100≤u) (hu64:u<18446744073709551616) (h:OwnB w B 5 v l) (hB:B≤w.heap.size) (hl:l.length≤70368744177664) (htab:Lib.TabIs prog w "internal/strconv.uint64pow10" .u64 Lib.pow10Tab) :
  Calls prog 239 #[v,.int .u64 (u:Int),.int .i64 10] w fun e w'=>∃v',e=.returned v'∧Put B 5 w v w' v' (l++decN u):=by
 have HH:=jJ (aI h hl);clear h hl;obtain ⟨i1,hi1⟩:=info_parts info_byte;have HI:=jJ hi1;clear hi1;have hu1:1≤u:=by omega
 have hlen:=length_decN hu64;have hdl:(decN u).length=Lib.nDigits u:=by rw [decN,nats,hZ1,Lib.decDigits_length]
 have hnd:Lib.nDigits u≤20:=by omega
 have hal:prog.arrayLen 259=24:=by simp [Program.arrayLen,underlying259]
 have hsl:∀W,(Instr.sliceAt 259 (.pointer (some ⟨w.heap.size,0,none⟩)) none (some (.int .i64 (Lib.nDigits u:Int))) none).run prog W=.ok (.slice (some ⟨w.heap.size,0,none⟩) (Lib.nDigits u) 24) W:=fun W=>by
  rw [run_sliceAt_array_h W 259 ⟨w.heap.size,0,none⟩ (by simp [Program.arrayLen,Program.elem,underlying259]) .i64 (Lib.nDigits u:Int) (by omega) (by rw [hal];omega)];go_simp
 have hH0:=Lib.holds_zero0 w 259 (Lib.nDigits u) (by omega);have hfmt:=Tryz.internal_strconv_formatBase10 w.heap.size 0 24 u (Array.replicate (Lib.nDigits u) 0) (w.alloc (.cells Lib.zeros24 259)) hH0 (by rw [Array.size_replicate];exact Lib.lt_pow_nDigits u) hu64 (by rw [Array.size_replicate];omega);rw [Array.size_replicate] at hfmt;have HF:=jJ (aI4 hH0 hfmt htab hdl);have iu:(100:Int)≤(u:Int):=by omega
 clear hH0 hal hfmt htab hdl;go_enter func239,ntmps239
 go_wp2_with (first
  | (go_at_call 253;refine (Tryz.internal_strconv_numDigits u hu1 hu64 _ (Lib.tabIs_alloc HF.o.2.2.1 _)).mono ?_;rintro e w' ⟨rfl,rfl⟩))
 go_at_call 254
 refine HF.o.2.1.mono ?_;rintro e w' ⟨rfl,k,v',dk,rfl,hF⟩;have hcells:∀j u',((decN u).map byteV)[j]?=some u'→((«Sort».putRow (fun (b:UInt8)=>Value.int .u8 (b.toNat:Int)) (w.alloc (.cells Lib.zeros24 259)) w.heap.size 0 dk).drewN k).cell? ((⟨w.heap.size,0,none⟩:Addr).add j)=some u':=by
  intro j u' hj;rw [decN,nats_byteV] at hj;have hjl:j<(Lib.decDigits u).length:=by
   have h5:=(List.getElem?_eq_some_iff.1 hj).1;rwa [hZ1] at h5
  have e5:((Lib.decDigits u).map fun b=>Value.int .u8 (b.toNat:Int))[j]?=some (Value.int .u8 ((Lib.decDigits u)[j].toNat:Int)):=by simp [hjl]
  rw [e5] at hj;cases hj;rw [Lib.row_is_numeral hF j hjl,Lib.add_plain,World.cell?_drewN];exact «Sort».cell?_putRow (fun (b:UInt8)=>Value.int .u8 (b.toNat:Int)) _ w.heap.size 0 _ dk HF.o.1 (by rw [hF.size,Array.size_replicate]) j (by rw [hF.size];rw [Lib.decDigits_length] at hjl;exact hjl)
 obtain ⟨os,eo⟩:=Lib.fin_at w (.cells Lib.zeros24 259) dk k 0;have hkk:aA Nil w ((«Sort».putRow (fun (b:UInt8)=>Value.int .u8 (b.toNat:Int)) (w.alloc (.cells Lib.zeros24 259)) w.heap.size 0 dk).drewN k):=by rw [eo];exact keeps_grow w k os
 generalize («Sort».putRow (fun (b:UInt8)=>Value.int .u8 (b.toNat:Int)) (w.alloc (.cells Lib.zeros24 259)) w.heap.size 0 dk).drewN k=W2 at hcells hkk⊢;have HZ:=jJ (aI hcells hkk);clear eo hcells hkk;go_wp2_with (at_builtin;refine wpList_bytes _ rfl _ _ 217 5 rfl i1 underlying217 HI.o.1 HI.o.2.1 HI.o.2.2.1 HI.o.2.2.2 B v l rfl (HH.o.1.keepNil HZ.o.2) ⟨w.heap.size,0,none⟩ 24 (Lib.nDigits u) (decN u) rfl HF.o.2.2.2 HZ.o.1 (by have h1:=HH.o.2;omega) (bZ1 hB HZ.o.2.size) ?_;intro v2 w3 hp;have HP:=jJ ((Put.start HH.o.1 HZ.o.2).trans hp);clear hp)
 go_ret
 exact⟨_,rfl,HP.o⟩
theorem appendU10_any (u:Nat) (hu64:u<18446744073709551616) (h:OwnB w B 5 v l) (hB:B≤w.heap.size) (hl:l.length≤70368744177664) (h0:l≠[]) (htab:Lib.TabIs prog w "internal/strconv.uint64pow10" .u64 Lib.pow10Tab) :
  Calls prog 239 #[v,.int .u64 (u:Int),.int .i64 10] w fun e w'=>∃v',e=.returned v'∧Put B 5 w v w' v' (l++decN u):=by
 by_cases hu:u<100
 ·exact appendU10_small u hu h hB hl h0
 ·exact appendU10_big u (by omega) hu64 h hB hl htab
theorem iappendI_any (i:Int) (hi0:-9223372036854775808≤i) (hi1:i≤9223372036854775807) (h:OwnB w B 5 v l) (hB:B≤w.heap.size) (hl:l.length≤70368744177663) (h0:l≠[]) (htab:Lib.TabBelow prog B w "internal/strconv.uint64pow10" .u64 Lib.pow10Tab) :
  Calls prog 224 #[v,.int .i64 i,.int .i64 10] w fun e w'=>∃v',e=.returned v'∧Put B 5 w v w' v' (l++bB i):=by
 have HH:=jJ (aI4 h hl h0 htab);clear h hl h0 htab;obtain ⟨i1,hi1'⟩:=info_parts info_byte;have HI:=jJ hi1';clear hi1';by_cases hneg:i<0
 ·have e1:bB i=[45]++decN i.natAbs:=by rw [bB,Lib.itoa,if_pos hneg];rfl
  have E1:=jJ e1;clear e1;go_enter func224,ntmps224
  go_wp2_with (at_builtin;go_loud (refine wpList_byte _ rfl _ _ 217 5 rfl i1 underlying217 HI.o.1 HI.o.2.1 HI.o.2.2.1 HI.o.2.2.2 B v l rfl (HH.o.1.keepNil (w':=w.alloc (.cells #[.int .u8 45] 5)) kOf) w.heap.size 45 rfl aC.alloc HH.o.2.1 (bZ1 hB (by simp)) ?_;intro v1 w1 hp;have hp1:=(Put.start HH.o.1 (w1:=w.alloc (.cells #[.int .u8 45] 5)) kOf).trans hp;have H1:=jJ hp1;clear hp hp1))
  have hw:IntKind.u64.wrap (-IntKind.u64.wrap i)=(i.natAbs:Int):=by
   simp only [IntKind.wrap,IntKind.bits,IntKind.signed,Bool.false_and,Bool.false_eq_true,if_false];omega
  rw [hw];refine (appendU10_any (w:=w1) i.natAbs (by omega) H1.o.own (bZ1 hB H1.o.keep.size) (by rw [aZ1];have:=HH.o.2.1;simp;omega) (by simp) (HH.o.2.2.2.on (below_of H1.o.keep (fun b hb=>(HH.o.1.lt b hb).1) hB)).here).mono ?_;rintro e w2 ⟨v2,rfl,hp2⟩;have hp3:=H1.o.trans hp2;rw [mZ2,←E1.out] at hp3;go_wp2
  go_ret
  exact⟨_,rfl,hp3⟩
 ·have e1:bB i=decN i.toNat:=by rw [bB,Lib.itoa,if_neg hneg];rfl
  have E1:=jJ e1;clear e1;have hcall:=appendU10_any (w:=w) i.toNat (by omega) HH.o.1 hB (by have:=HH.o.2.1;omega) HH.o.2.2.1 HH.o.2.2.2.here;rw [show ((i.toNat:Nat):Int)=i by omega,←E1.out] at hcall;have HC:=jJ hcall;clear hcall;go_enter func224,ntmps224
  go_wp2_with (go_at_call 239;refine HC.o.mono ?_;rintro e w1 ⟨v1,rfl,hp⟩)
  go_ret
  exact⟨_,rfl,hp⟩
theorem appendI_any (i:Int) (hi0:-9223372036854775808≤i) (hi1:i≤9223372036854775807) (h:OwnB w B 5 v l) (hB:B≤w.heap.size) (hl:l.length≤70368744177663) (h0:l≠[]) (htab:Lib.TabBelow prog B w "internal/strconv.uint64pow10" .u64 Lib.pow10Tab) :
  Calls prog 192 #[v,.int .i64 i,.int .i64 10] w fun e w'=>∃v',e=.returned v'∧Put B 5 w v w' v' (l++bB i):=by
 have HC:=jJ (iappendI_any i hi0 hi1 h hB hl h0 htab);clear h hl h0 htab;go_enter func192,ntmps192
 go_wp2_with (go_at_call 224;refine HC.o.mono ?_;rintro e w1 ⟨v1,rfl,hp⟩)
 go_ret
 exact⟨_,rfl,hp⟩
end
end Go.Proofs.Q
