/- Bytes of one's own, of which the row may bear a mark behind its cells (what a string turned to bytes leaves): . -/
import Derived.Test.YtlldghknenbccaaGreatDoorRAtom6
set_option linter.unusedSimpArgs false
set_option linter.unusedVariables false
set_option maxRecDepth 100000
set_option maxHeartbeats 4000000
namespace Go.Proofs.Q
open Go.RowKit Go.Maps Tryz
section
variable {l new:List Nat} {E:TypeId} {Q:Exit→Act→World→Prop} {v v1:Value} {B g:Nat} {ops:Array Oper} {rest:List Oper} {o:Oper} {a:Act} {cur:Array Value} {w1 w' w2:World} {xs:List Value} {fz:Nat × Nat} {M:Nat→Prop}
def gG (b:Nat):Value:=.int .u8 (b:Int)
def XP (fz:Nat × Nat) (n:Nat):Prop:=fz=(0,0)∨n≤fz.1
def fO (w:World) (B:Nat) (E:TypeId) (v:Value) (l:List Nat):Prop:=
 (v=.slice none 0 0∧l=[])∨∃g cap cur fz,v=.slice (some ⟨g,0,none⟩) l.length cap∧B≤g∧w.heap[g]?=some (.cells cur E fz)∧XP fz cur.size∧l.length≤cap∧cap≤maxLen∧cur.size=cap∧cur.toList.take l.length=l.map gG
theorem fO.bBU {w:World} (h:w.ownsRow B E 1 v l.length (l.map gG)):fO w B E v l:=by
 rcases h.2 with ⟨rfl,h0⟩|⟨g,cap,cur,rfl,hb,hg,hnc,hcm,hcs,htake⟩
 ·exact .inl ⟨rfl,fZ1 h0⟩
 ·exact .inr ⟨g,cap,cur,(0,0),rfl,hb,hg,.inl rfl,hnc,hcm,by rw [hcs,Nat.mul_one],by rw [Nat.mul_one] at htake;exact htake⟩
theorem fO.lt {w:World} (h:fO w B E v l):∀b,v.ownBlock=some b→B≤b∧b<w.heap.size:=fun b hb=>by
 rcases h with ⟨rfl,rfl⟩|⟨g,cap,cur,fz,rfl,hg,hh,-⟩
 ·cases hb
 ·cases hb
  exact⟨hg,(Array.getElem?_eq_some_iff.1 hh).1⟩
theorem fO.keep {w:World} (h:fO w B E v l) (k:aA M w w') (hn:∀b,v.ownBlock=some b→¬M b):fO w' B E v l:=by
 rcases h with h|⟨g,cap,cur,fz,rfl,hg,hh,r⟩
 ·exact .inl h
 ·exact .inr ⟨g,cap,cur,fz,rfl,hg,by rw [k.block g (Array.getElem?_eq_some_iff.1 hh).1 (hn g rfl)];exact hh,r⟩
theorem fO.eO {w:World} (h:fO w B E v l) (k:aA Nil w w'):fO w' B E v l:=h.keep k fun _ _=>id
theorem fO.ne {w:World} {T:TypeId} (h:fO w B E v l) (r:aF w g T xs) (hE:E≠T):¬Own v g:=fun hg=>by
 rcases h with ⟨rfl,-⟩|⟨g',cap,cur,fz,rfl,hb,hg',-⟩
 ·cases hg
 ·obtain rfl:g'=g:=lZ2 hg;have h1:=hg'.symm.trans r.out;simp only [Option.some.injEq,Obj.cells.injEq] at h1;exact hE h1.2.1
theorem fO.cells {w:World} (h:fO w B E v l) (hg:v.ownBlock=some g):∀j u,(l.map gG)[j]?=some u→w.cell? ((⟨g,0,none⟩:Addr).add j)=some u:=fun j u hj=>by
 rcases h with ⟨rfl,-⟩|⟨g',cap,cur,fz,rfl,hb,hg',-,-,-,-,ht⟩
 ·cases hg
 ·obtain rfl:g'=g:=lZ2 hg;rw [←ht,List.getElem?_take] at hj;split at hj
  ·rw [Addr.add_lit];simp only [World.cell?,hg',Nat.zero_add];simpa using hj
  ·cases hj
theorem SC (P:Program) (g o:Nat) (t:TypeId) (fz:Nat × Nat):∀(vs:List Value) (i:Nat) (cur:Array Value) (w:World),w.heap[g]?=some (.cells cur t fz)→XP fz cur.size→o+i+vs.length≤cur.size→(∀v∈vs,v.oneCell'=true) →
  (storeCells ⟨g,o,none⟩ vs i).run P w=.ok () (w.setRow g (cur.toList.take (o+i)++vs++cur.toList.drop (o+i+vs.length)).toArray)
 | [],i,cur,w,hg,_,_,_=>by
  have e:(cur.toList.take (o+i)++[]++cur.toList.drop (o+i+([]:List Value).length)).toArray=cur:=zW;rw [e,setRow_self w g cur t fz hg];rfl
 | v::rest,i,cur,w,hg,hfz,hl,h1=>by
  have hlt:o+i<cur.size:=by simp at hl;omega
  have hadd:(⟨g,o,none⟩:Addr).add i=⟨g,o+i,none⟩:=Addr.add_lit ..;have hcell:w.cell? ⟨g,o+i,none⟩=some cur[o+i]:=by simp [World.cell?,hg,hlt]
  have hfro:w.frozen? ⟨g,o+i,none⟩=false:=by
   rcases hfz with rfl|hfz
   ·simp [World.frozen?,hg]
   ·obtain ⟨lo,hi'⟩:=fz;simp only at hfz;have:¬lo≤o+i:=zZ;simp [World.frozen?,hg,this]
  have hst:(store ((⟨g,o,none⟩:Addr).add i) v).run P w=.ok () (w.setRow g (cur.setIfInBounds (o+i) v)):=by
   rw [hadd,run_store P w _ v _ (h1 v zW),hcell];simp [hfro,setCell_eq_setRow w g (o+i) cur t fz v hg]
  have ih:=SC P g o t fz rest (i+1) (cur.setIfInBounds (o+i) v) (w.setRow g (cur.setIfInBounds (o+i) v)) (setRow_heap w g cur _ t _ hg) (by simpa using hfz) pR fun x hx=>h1 x (lZ1 _ hx);simp only [storeCells,Sem.run_bind,hst,Result.andThen_ok,ih,setRow_setRow];congr 3;have e:=list_seg_step cur.toList (o+i) v rest pR;simpa [Array.toList_setIfInBounds,Nat.add_assoc] using e
structure Put (B:Nat) (E:TypeId) (w:World) (v:Value) (w':World) (v':Value) (l:List Nat):Prop where
 own:fO w' B E v' l
 keep:aA (Own v) w w'
 fresh:DZ w v v'
theorem Put.trans {w:World} {v2:Value} {l1 l2:List Nat} (h:Put B E w v w1 v1 l1) (k:Put B E w1 v1 w2 v2 l2):Put B E w v w2 v2 l2:=by
 refine ⟨k.own,h.keep.trans' k.keep fun b hb=>?_,fun b hb=>?_⟩
 ·rcases h.fresh b hb with h1|h1
  ·exact .inl h1
  ·exact .inr h1
 ·rcases k.fresh b hb with h1|h1
  ·exact h.fresh b h1
  ·exact .inr (bZ1 h.keep.size h1)
theorem Put.start {w:World} (h:fO w B E v l) (k:aA Nil w w1):Put B E w v w1 v l:=⟨h.eO k,k.of_nil,fun _ h=>.inl h⟩
theorem Put.more {w:World} (h:Put B E w v w1 v1 l) (k:aA Nil w1 w2):Put B E w v w2 v1 l:=h.trans (.start h.own k)
theorem aXI (cur:List Value) (n:Nat) (xs ys rest:List Value) (h:cur.take n=xs) (hn:n≤cur.length):(cur.take n++ys++rest).take (n+ys.length)=xs++ys:=by
 rw [h,List.take_left'];rw [aZ1,←h,iZ1,Nat.min_eq_left hn]
section
variable {P:Program} (w:World)
theorem aIF {cap:Nat} (hB:B≤g) (hg:w.heap[g]?=some (.cells cur E fz)) (hfz:XP fz cur.size) (hcm:cap≤maxLen) (hcs:cur.size=cap) (ht:cur.toList.take l.length=l.map gG) (hroom:l.length+new.length≤cap) :
  Put B E w (.slice (some ⟨g,0,none⟩) l.length cap) (w.setRow g (cur.toList.take l.length++new.map gG++cur.toList.drop (l.length+new.length)).toArray) (.slice (some ⟨g,0,none⟩) (l.length+new.length) cap) (l++new):=by
 have hsz:(cur.toList.take l.length++new.map gG++cur.toList.drop (l.length+new.length)).toArray.size=cur.size:=zV;refine ⟨.inr ⟨g,cap,_,fz,by rw [aZ1],hB,setRow_heap w g cur _ E _ hg,by rw [hsz];exact hfz,by rw [aZ1];exact hroom,hcm,hsz.trans hcs,?_⟩,⟨rfl,rfl,rfl,by simp [World.setRow],fun k _ hk=>setRow_other w g k _ fun e=>hk (by rw [e];rfl)⟩,fun b hb=>.inl hb⟩;rw [aZ1,cZ2,List.toList_toArray];have:=aXI cur.toList l.length (l.map gG) (new.map gG) (cur.toList.drop (l.length+new.length)) ht zV;rw [hZ1] at this;exact this
theorem aEM {cap c:Nat} (hB:B≤w.heap.size) (hc:l.length+new.length≤c) (hcm:c≤maxLen) :
  Put B E w (.slice (some ⟨g,0,none⟩) l.length cap) (w.drew.alloc (.cells ((l.map gG).toArray++(new.map gG).toArray++Builtin.zeroCells (Value.int .u8 0).cells (c-(l.length+new.length))) E)) (.slice (some ⟨w.heap.size,0,none⟩) (l.length+new.length) c) (l++new):=by
 have hz1:(Value.int IntKind.u8 0).cells.size=1:=rfl;refine ⟨.inr ⟨w.heap.size,c,_,(0,0),by rw [aZ1],hB,heap_alloc_new w.drew _,.inl rfl,by rw [aZ1];exact hc,hcm,?_,?_⟩,⟨rfl,rfl,rfl,zW,fun k hk _=>heap_alloc_old w.drew _ hk⟩,fun b hb=>?_⟩
 ·simp only [Array.size_append,List.size_toArray,size_zeroCells,hz1,hZ1];omega
 ·simp only [Array.toList_append];rw [List.take_left' zW,←cZ2]
 ·cases hb;exact .inr (bZ2 _)
theorem aLE (B:Nat) (t ty e:TypeId) (i:TypeInfo) (ht:P.underlying t=some (.slice e)) (hi:P.info? e=some i) (hz:i.zero=some (.int .u8 0)) (hsize:i.size=1) (hby:i.bytes=1)
  (v:Value) (l:List Nat) (hown:fO w B e v l) (a:Addr) (c:Nat) (new:List Nat) (hnew:∀j u,(new.map gG)[j]?=some u→w.cell? (a.add j)=some u) (hl:l.length+new.length≤140737488355328) (hB:B≤w.heap.size) :
  ∃v' w',(Builtin.append_ #[t,t] ty #[v,.slice (some a) new.length c]).run P w=.ok v' w'∧Put B e w v w' v' (l++new):=by
 have h1:∀u∈new.map gG,u.oneCell'=true:=fun u hu=>by obtain ⟨b,_,rfl⟩:=iZ2.1 hu;rfl
 rcases hown with ⟨rfl,rfl⟩|⟨g,cap,cur,fz,rfl,hbg,hg,hfz,hnc,hcm,hcs,htake⟩
 ·obtain ⟨v',w',r1,r2,r3,r4⟩:=run_append_own (P:=P) w B t ty e i (.int .u8 0) 1 1 ht hi hz hsize hby rfl zY (.slice none 0 0) 0 [] ⟨zW,.inl ⟨rfl,rfl⟩⟩ a new.length c (new.map gG) zW hnew h1 (by unfold maxLen;simp at hl;omega) (by simp at hl;omega) hB;exact⟨v',w',r1,.bBU (by simpa using r2),(aA.aBX r3).of_nil,ZX (P:=P) w B t ty e i (.int .u8 0) ht hi hz (.slice none 0 0) 0 [] ⟨zW,.inl ⟨rfl,rfl⟩⟩ a new.length c (new.map gG) tM hnew h1 (by unfold maxLen;simp at hl;omega) (by rw [hby];simp at hl;omega) r1⟩
 ·by_cases hroom:l.length+new.length≤cap
  ·have hf:=run_firstCells_some (P:=P) w i.size new.length a new.length c (new.map gG) tM hnew;rw [hsize] at hf;have hst:=SC P g l.length e fz (new.map gG) 0 cur w hg hfz zV h1;simp only [Nat.add_zero,hZ1] at hst;refine ⟨_,_,?_,aIF w hbg hg hfz hcm hcs htake hroom⟩;simp [Builtin.append_,run_underlying ht,sizeOf,typeInfo,hi,Builtin.lenOf,hroom,hf,Addr.add_lit,hsize,hst]
  ·have holds:∀j u,(l.map gG)[j]?=some u→w.cell? ((⟨g,0,none⟩:Addr).add j)=some u:=fO.cells (v:=.slice (some ⟨g,0,none⟩) l.length cap) (.inr ⟨g,cap,cur,fz,rfl,hbg,hg,hfz,hnc,hcm,hcs,htake⟩) rfl;refine ⟨_,_,run_append_grow (P:=P) w t ty e i (.int .u8 0) ht hi hz ⟨g,0,none⟩ l.length cap (l.map gG) tM holds a new.length c (new.map gG) tM hnew zZ zZ (by rw [hby];exact growslice_fits zZ zZ),?_⟩;exact aEM w hB (grownCap_ge ..) (grownCap_le_maxLen _ _ _ _ zC)
theorem SX (hgd:o.guard=none) (s x:Operand) (t e:TypeId)
  (ho:o.op=.call { callee:=.builtin .append,args:=#[s,x],argTypes:=#[t,t] }) (i:TypeInfo) (ht:P.underlying t=some (.slice e)) (hi:P.info? e=some i) (hz:i.zero=some (.int .u8 0)) (hsize:i.size=1) (hby:i.bytes=1)
  (B:Nat) (v:Value) (l:List Nat) (hs:a.eval s=v) (hown:fO w B e v l) (ad:Addr) (c m:Nat) (new:List Nat) (hx:a.eval x=.slice (some ad) m c) (hm:new.length=m) (hnew:∀j u,(new.map gG)[j]?=some u→w.cell? (ad.add j)=some u) (hl:l.length+new.length≤140737488355328) (hB:B≤w.heap.size)
  (h:∀v' w',Put B e w v w' v' (l++new)→wpList P ops Q rest (a.put o.dst v') w'):wpList P ops Q (o::rest) a w:=by
 subst hm;refine wpList_plain hgd fun K hK=>?_;obtain ⟨v',w',hr,hp⟩:=aLE (P:=P) w B t o.type e i ht hi hz hsize hby v l hown ad c new hnew hl hB;unfold Oper.wp execOp;simp only [ho,resolve,invoke,builtin,Sem.run_bind,Sem.run_pure,Result.andThen_ok,List.map_toArray,dZ2,List.map_nil,hs,hx,hr];exact hK _ _ (h v' w' hp)
theorem JV (hgd:o.guard=none) (s x:Operand) (t e:TypeId)
  (ho:o.op=.call { callee:=.builtin .append,args:=#[s,x],argTypes:=#[t,t] }) (i:TypeInfo) (ht:P.underlying t=some (.slice e)) (hi:P.info? e=some i) (hz:i.zero=some (.int .u8 0)) (hsize:i.size=1) (hby:i.bytes=1)
  (B:Nat) (v:Value) (l:List Nat) (hs:a.eval s=v) (hown:fO w B e v l) (b y:Nat) (hx:a.eval x=.slice (some ⟨b,0,none⟩) 1 1) (hrow:aF w b e [.int .u8 (y:Int)]) (hl:l.length≤70368744177663) (hB:B≤w.heap.size)
  (h:∀v' w',Put B e w v w' v' (l++[y])→wpList P ops Q rest (a.put o.dst v') w'):wpList P ops Q (o::rest) a w:=
 SX w hgd s x t e ho i ht hi hz hsize hby B v l hs hown ⟨b,0,none⟩ 1 1 [y] hx rfl (fun j u hj=>by rw [Addr.add_lit,hrow.cell];simpa [gG] using hj) zV hB h
theorem aKQ (B:Nat) (t u ty e:TypeId) (i:TypeInfo) (ht:P.underlying t=some (.slice e)) (hu:P.underlying u=some .string) (hi:P.info? e=some i) (hz:i.zero=some (.int .u8 0)) (hsize:i.size=1) (hby:i.bytes=1)
  (v:Value) (l:List Nat) (hown:fO w B e v l) (s:ByteArray) (new:List Nat) (hs:Lib.strCells s=new.map gG) (hl:l.length+new.length≤140737488355328) (hB:B≤w.heap.size) (hv:v≠.slice none 0 0) :
  ∃v' w',(Builtin.append_ #[t,u] ty #[v,.string s]).run P w=.ok v' w'∧Put B e w v w' v' (l++new):=by
 have hsz:s.size=new.length:=by have:=congrArg List.length hs;rw [Lib.strCells_length,hZ1] at this;exact this
 have h1:∀x∈new.map gG,x.oneCell'=true:=fun x hx=>by obtain ⟨b,_,rfl⟩:=iZ2.1 hx;rfl
 rcases hown with ⟨rfl,rfl⟩|⟨g,cap,cur,fz,rfl,hbg,hg,hfz,hnc,hcm,hcs,htake⟩
 ·exact absurd rfl hv
 ·by_cases hroom:l.length+new.length≤cap
  ·have hf:=Lib.run_firstCells_string (P:=P) w 1 s;have hst:=SC P g l.length e fz (new.map gG) 0 cur w hg hfz zV h1;simp only [Nat.add_zero,hZ1] at hst;refine ⟨_,_,?_,aIF w hbg hg hfz hcm hcs htake hroom⟩;rw [hs,hsz] at hf;simp [Builtin.append_,run_underlying ht,run_underlying hu,sizeOf,typeInfo,hi,Builtin.lenOf,hsz,hroom,hf,Addr.add_lit,hsize,hst]
  ·have holds:∀j u,(l.map gG)[j]?=some u→w.cell? ((⟨g,0,none⟩:Addr).add j)=some u:=fO.cells (v:=.slice (some ⟨g,0,none⟩) l.length cap) (.inr ⟨g,cap,cur,fz,rfl,hbg,hg,hfz,hnc,hcm,hcs,htake⟩) rfl;have hr:=Lib.run_append_grow_string (P:=P) w t u ty e i (.int .u8 0) ht hu hi hz ⟨g,0,none⟩ l.length cap (l.map gG) tM holds s zZ zZ (by rw [hby];exact growslice_fits zZ zZ);rw [hs,hsz] at hr;exact⟨_,_,hr,aEM w hB (grownCap_ge ..) (grownCap_le_maxLen _ _ _ _ zC)⟩
theorem aKX (hgd:o.guard=none) (sl x:Operand) (t u e:TypeId)
  (ho:o.op=.call { callee:=.builtin .append,args:=#[sl,x],argTypes:=#[t,u] }) (i:TypeInfo) (ht:P.underlying t=some (.slice e)) (hu:P.underlying u=some .string) (hi:P.info? e=some i) (hz:i.zero=some (.int .u8 0)) (hsize:i.size=1) (hby:i.bytes=1)
  (B:Nat) (v:Value) (l:List Nat) (hs:a.eval sl=v) (hown:fO w B e v l) (s:ByteArray) (new:List Nat) (hx:a.eval x=.string s) (hnew:Lib.strCells s=new.map gG) (hl:l.length+new.length≤140737488355328) (hB:B≤w.heap.size) (hv:v≠.slice none 0 0)
  (h:∀v' w',Put B e w v w' v' (l++new)→wpList P ops Q rest (a.put o.dst v') w'):wpList P ops Q (o::rest) a w:=by
 refine wpList_plain hgd fun K hK=>?_;obtain ⟨v',w',hr,hp⟩:=aKQ (P:=P) w B t u o.type e i ht hu hi hz hsize hby v l hown s new hnew hl hB hv;unfold Oper.wp execOp;simp only [ho,resolve,invoke,builtin,Sem.run_bind,Sem.run_pure,Result.andThen_ok,List.map_toArray,dZ2,List.map_nil,hs,hx,hr];exact hK _ _ (h v' w' hp)
end
end
def jH (d:Nat):Nat:=if d<10 then 48+d else 87+d
def d36 (u:Nat):List Nat:=if h:u<36 then [jH u] else d36 (u / 36)++[jH (u % 36)]
termination_by u
decreasing_by omega
theorem GY {u:Nat} (h:u<36):d36 u=[jH u]:=by rw [d36,dif_pos h]
theorem LG {u:Nat} (h:¬u<36):d36 u=d36 (u / 36)++[jH (u % 36)]:=by rw [d36,dif_neg h]
theorem aDB:∀(k u:Nat),u<36*2 ^ k→(d36 u).length≤k+1
 | 0,u,h=>by rw [GY wD];simp
 | k+1,u,h=>by
  by_cases hu:u<36
  ·rw [GY hu];simp
  ·rw [LG hu,aZ1];have:=aDB k (u / 36) (by rw [Nat.pow_succ] at h;omega);simp only [gZ1,gZ2];omega
section
variable {cs:List Value} {l:List Nat} {w:World} {v:Value} {B u i:Nat}
theorem KH:(prog.info? 5).map (fun i=>(i.zero,i.size,i.bytes))=some (some (.int .u8 0),1,1):=zX
def B36:ByteArray:=⟨#[48,49,50,51,52,53,54,55,56,57,97,98,99,100,101,102,103,104,105,106,107,108,109,110,111,112,113,114,115,116,117,118,119,120,121,122]⟩
theorem bCB:∀i:Fin 36,(B36[i.val]'i.isLt).toNat=jH i.val:=zY
theorem idx_36 (w:World) (d:Nat) (h:d<36):(Instr.index 9 (.string B36) (.int .u64 (d:Int))).run prog w=.ok (.int .u8 (jH d:Int)) w:=by
 rw [run_index_string w 9 _ .u64 _ underlying9,dif_pos ⟨zZ,by show (d:Int)<36;omega⟩];have e:((d:Int)).toNat=d:=zZ;simp only [e];exact congrArg (fun (n:Nat)=>Result.ok (Value.int .u8 (n:Int)) w) (bCB ⟨d,h⟩)
theorem pow2_36 (w:World):Calls prog 251 #[.int .i64 36] w fun e w'=>e=.returned (.bool false)∧aA Nil w w':=by
 have hb:bits BinOp.and IntKind.i64 36 35=32:=zY;go_enter func251,ntmps251
 go_wp2
 go_ret
 exact⟨rfl,aA.refl Nil w⟩
structure Laid (u i v:Nat) (cs:List Value) (tail:List Nat):Prop where
 size:cs.length=65
 le:i≤65
 drop:cs.drop i=tail.map gG
 all:d36 v++tail=d36 u
 fit:v*2 ^ (65-i)≤u
theorem Laid.start (h:cs.length=65):Laid u 65 u cs []:=⟨h,bZ2 _,by simp [←h],zW,zW⟩
theorem drop_set {β:Type} (l:List β) (i:Nat) (x:β) (h:i<l.length):(l.set i x).drop i=x::l.drop (i+1):=by
 rw [List.drop_set,if_neg zZ,Nat.sub_self];rw [List.drop_eq_getElem_cons h];rfl
theorem Laid.pos {v:Nat} {tail:List Nat} (h:Laid u i v cs tail) (hu:u<2 ^ 64) (hv:0<v∨i=65):0<i:=by
 rcases hv with hv|rfl
 ·rcases Nat.eq_zero_or_pos i with rfl|h0
  ·have h1:=h.fit;have h2:1*2 ^ (65-0)≤v*2 ^ (65-0):=Nat.mul_le_mul_right _ hv;omega
  ·exact h0
 ·omega
theorem Laid.step {v:Nat} {tail:List Nat} (h:Laid u (i+1) v cs tail) (hv:¬v<36):Laid u i (v / 36) (cs.set i (.int .u8 (jH (v % 36):Int))) (jH (v % 36)::tail):=by
 refine ⟨by rw [List.length_set];exact h.size,by have:=h.le;omega,?_,?_,?_⟩
 ·rw [drop_set _ _ _ (by rw [h.size];have:=h.le;omega),h.drop];rfl
 ·rw [←h.all,LG hv,mZ2];rfl
 ·have h1:=h.fit;have h2:=h.le;rw [show 65-i=(65-(i+1))+1 by omega,Nat.pow_succ];have h3:v / 36*(2 ^ (65-(i+1))*2)=(v / 36*2)*2 ^ (65-(i+1)):=by rw [Nat.mul_comm (2 ^ _) 2,←Nat.mul_assoc]
  rw [h3];exact bZ1 (Nat.mul_le_mul_right _ zZ) h1
theorem Laid.last {v:Nat} {tail:List Nat} (h:Laid u (i+1) v cs tail) (hv:v<36):(cs.set i (.int .u8 (jH v:Int))).drop i=(d36 u).map gG:=by
 rw [drop_set _ _ _ (by rw [h.size];have:=h.le;omega),h.drop,←h.all,GY hv];rfl
theorem aLP (u:Nat) (hu:u<2 ^ 64) (h:fO w B 5 v l) (hB:B≤w.heap.size) (hl:l.length≤70368744177664) :
  Calls prog 243 #[v,.int .u64 (u:Int),.int .i64 36,.bool false,.bool true] w fun e w'=>∃v',e=.returned (.tuple #[v',.string ⟨#[]⟩])∧Put B 5 w v w' v' (l++d36 u):=by
 have HH:=jJ (aI h hl);have hx:=fun w d h=>idx_36 w d h;clear h hl;go_enter func243,ntmps243
 rw [show (⟨#[48,49,50,51,52,53,54,55,56,57,97,98,99,100,101,102,103,104,105,106,107,108,109,110,111,112,113,114,115,116,117,118,119,120,121,122]⟩:ByteArray)=B36 from rfl];go_upto_region 4 with fail
 rw [show Tryz.zeroCells263=(List.replicate 65 (Value.int .u8 0)).toArray by kernel_rfl];have r0:aF (w.alloc (.cells (List.replicate 65 (Value.int .u8 0)).toArray 263)) w.heap.size 263 (List.replicate 65 (Value.int .u8 0)):=aF.alloc;have k0:aA Nil w (w.alloc (.cells (List.replicate 65 (Value.int .u8 0)).toArray 263)):=kOf;generalize w.alloc (.cells (List.replicate 65 (Value.int .u8 0)).toArray 263)=w0 at *
 have H0:=jJ (aI r0 k0);clear r0 k0;go_upto_region 17 with (go_at_call 251;refine (pow2_36 _).mono ?_;rintro e w1 ⟨rfl,hk1⟩;have H1:=jJ hk1;clear hk1)
 go_wp2_with fail
 go_loopw [13,1] (fun i u' wr=>∃(k t:Nat) (cs:List Value) (tail:List Nat),i=.int .i64 k∧u'=.int .u64 t∧Laid u k t cs tail∧(0<t∨k=65)∧aF wr w.heap.size 263 cs∧aA Nil w wr) (fun i u' _=>(intOf u').toNat)
 case atStart=>exact⟨65,u,_,[],rfl,rfl,Laid.start zW,.inr rfl,H0.o.1.keep H1.o id,H0.o.2.trans H1.o⟩
 case round=>
  obtain ⟨k,t,cs,tail,rfl,rfl,hlaid,htk,hrow,hkk⟩:=hrel;obtain ⟨k,rfl⟩:∃k',k=k'+1:=⟨k-1,by have:=hlaid.pos hu htk;omega⟩;have hk65:=hlaid.le;have ht64:t<18446744073709551616:=by have:=hlaid.fit;have h2:t*1≤t*2 ^ (65-(k+1)):=Nat.mul_le_mul_left _ (Nat.pow_pos zZ);omega
  have c0:=hrow.cell k;have f0:=hrow.frozen k;obtain ⟨old,ho⟩:∃v0,cs[k]?=some v0:=⟨_,jZ2 (show k<cs.length by rw [hlaid.size];omega)⟩;rw [ho] at c0;clear ho;have HL:=jJ (aI3 hlaid hrow hkk);clear hlaid htk hrow hkk;by_cases ht:t<36
  ·have hi:∀W,(Instr.index 9 (.string B36) (.int .u64 (t:Int))).run prog W=.ok (.int .u8 (jH t:Int)) W:=fun W=>idx_36 W t ht;clear hx;have hal:prog.arrayLen 263=65:=by simp [Program.arrayLen,underlying263]
   have hsl:∀W,(Instr.sliceAt 263 (.pointer (some ⟨w.heap.size,0,none⟩)) (some (.int .i64 (k:Int))) none none).run prog W=.ok (.slice (some ⟨w.heap.size,k,none⟩) (65-k) (65-k)) W:=fun W=>by
    rw [run_sliceAt_array_l W 263 ⟨w.heap.size,0,none⟩ (by simp [Program.arrayLen,Program.elem,underlying263]) .i64 (k:Int) zZ (by rw [hal];omega)];go_simp
    omega
   have hrow:=HL.o.2.1.set k (.int .u8 (jH t:Int));have hdrop:=HL.o.1.last ht;have hkw:aA Nil w (wr.setCell ⟨w.heap.size,k,none⟩ (.int .u8 (jH t:Int))):=HL.o.2.2.own (bZ2 _) ((aA.refl (One w.heap.size) wr).set1 k _);have hlen:=HL.o.1.size;have hlen':(d36 u).length=65-k:=by
    have h1:=congrArg List.length hdrop;rw [gZ3,List.length_set,hlen,hZ1] at h1;exact h1.symm
   have HZ:=jJ (aI4 hrow hdrop hkw hlen');clear hlen';obtain ⟨i1,hi1⟩:=info_parts KH;have HI:=jJ hi1;clear hrow hdrop hkw hlen hi1 hal;go_upto_region 29 with fail
   generalize wr.setCell ⟨w.heap.size,k,none⟩ (.int .u8 (jH t:Int))=wz at *
   go_wp2_with (at_builtin;refine SX _ rfl _ _ 211 5 rfl i1 underlying211 HI.o.1 HI.o.2.1 HI.o.2.2.1 HI.o.2.2.2 B v l rfl (HH.o.1.eO HZ.o.2.2.1) ⟨w.heap.size,k,none⟩ (65-k) (65-k) (d36 u) rfl HZ.o.2.2.2 ?l2 ?l3 (bZ1 hB HZ.o.2.2.1.size) ?_)
   case l2=>
    intro j x hj;rw [←HZ.o.2.1,List.getElem?_drop] at hj;rw [Addr.add_lit,HZ.o.1.cell];exact hj
   case l3=>have h1:=HH.o.2;have h2:=HZ.o.2.2.2;omega
   intro v2 w3 hp;have HF:=jJ ((Put.start HH.o.1 HZ.o.2.2.1).trans hp);clear hp;go_wp2
   exact bodyPost_ret (v:=.tuple #[v2,.string ⟨#[]⟩]) (by simp [results,results243,go_sem]) rfl ⟨v2,rfl,HF.o⟩
  ·have hi:∀W,(Instr.index 9 (.string B36) (.int .u64 ((t:Int)-(t:Int) / 36*36))).run prog W=.ok (.int .u8 (jH (t % 36):Int)) W:=fun W=>by
    rw [show (t:Int)-(t:Int) / 36*36=((t % 36:Nat):Int) by omega];exact idx_36 W _ (Nat.mod_lt _ zZ)
   clear hx;go_wp2_with fail
   go_roundw
   case rel=>exact⟨k,t / 36,_,_,rfl,zF,HL.o.1.step ht,.inl zZ,HL.o.2.1.set k _,HL.o.2.2.own (bZ2 _) ((aA.refl (One w.heap.size) wr).set1 k _)⟩
   case measure=>exact zI
theorem aLI (u:Nat) (hu:u<2 ^ 64) (h:fO w B 5 v l) (hB:B≤w.heap.size) (hl:l.length≤70368744177664) :
  Calls prog 227 #[v,.int .u64 (u:Int),.int .i64 36] w fun e w'=>∃v',e=.returned v'∧Put B 5 w v w' v' (l++d36 u):=by
 have HH:=jJ (aI h hl);clear h hl;go_enter func227,ntmps227
 go_wp2_with (go_at_call 243;refine (aLP u hu HH.o.1 hB HH.o.2).mono ?_;rintro e w1 ⟨v',rfl,ho⟩;have HF:=jJ ho;clear ho)
 go_ret
 exact⟨_,rfl,HF.o⟩
theorem aLQ (u:Nat) (hu:u<2 ^ 64) (h:fO w B 5 v l) (hB:B≤w.heap.size) (hl:l.length≤70368744177664) :
  Calls prog 205 #[v,.int .u64 (u:Int),.int .i64 36] w fun e w'=>∃v',e=.returned v'∧Put B 5 w v w' v' (l++d36 u):=by
 have HH:=jJ (aI h hl);clear h hl;go_enter func205,ntmps205
 go_wp2_with (go_at_call 227;refine (aLI u hu HH.o.1 hB HH.o.2).mono ?_;rintro e w1 ⟨v',rfl,ho⟩;have HF:=jJ ho;clear ho)
 go_ret
 exact⟨_,rfl,HF.o⟩
end
def From (B:Nat):Nat→Prop:=fun b=>B≤b
def iF (l:List Nat):List Nat:=l.flatMap fun x=>32::d36 x
def eD (z:Int):List Nat:=58::((if neg z then [45] else [])++(iF (bH z.natAbs)++[59]))
theorem Put.zn {B:Nat} {E:TypeId} {w w1:World} {v v1:Value} {l:List Nat} {g:Bool} {a:Option Addr} {n c:Nat} {z:Int} (h:Put B E w v w1 v1 l) (ho:∀b,v.ownBlock=some b→B≤b) (hB:B≤w.heap.size) (hz:ZN (From B) w g a n c z):ZN (From B) w1 g a n c z:=hz.move h.keep (fun b _ hb=>ho b hb) fun _ _ h=>h
theorem aPM (l:List Nat) (x:Nat):iF (l++[x])=iF l++(32::d36 x):=by simp [iF]
theorem RY:∀(l:List Nat),(∀x∈l,x<4294967296)→(iF l).length≤29*l.length
 | [],_=>by simp [iF]
 | x::l,h=>by
  have h1:=RY l fun y hy=>h y (lZ1 _ hy);have h2:=aDB 27 x (by have:=h x (kZ1 ..);omega);rw [show iF (x::l)=(32::d36 x)++iF l from rfl,aZ1,gZ1,gZ1];omega
theorem EK {B:Nat} {w:World} {v:Value} {l:List Nat} {g:Bool} {a:Option Addr} {n c:Nat} {z:Int} (h:fO w B 5 v l) (hB:B≤w.heap.size) (hz:ZN (From B) w g a n c z) (hl:l.length+32*eP z.natAbs+8≤70368744177600) :
  Calls prog 179 #[v,.agg #[.bool g,.slice a n c]] w fun e w'=>∃v',e=.returned v'∧Put B 5 w v w' v' (l++eD z):=by
 have hnl:n=eP z.natAbs:=hz.2.len.symm;have hsl:=hz.2.sl;have HA:=jJ (aI4 h hz hl hnl);have HG:=jJ hz.1;clear h hz hl hnl hsl;obtain ⟨i1,hi1⟩:=info_parts KH;have HI:=jJ hi1;clear hi1;have hob:∀b,v.ownBlock=some b→B≤b:=fun b hb=>(HA.o.1.lt b hb).1;go_enter func179,ntmps179
 go_upto_region 1 with (fail)
 obtain ⟨w0,e_1,k0,r0⟩:=bx1 w 25 [.bool g,.slice a n c];rw [e_1];clear e_1;have H0:=jJ (aI k0 r0);clear k0 r0;go_upto_region 2 with (at_builtin;go_loud (refine JV _ rfl _ _ 211 5 rfl i1 underlying211 HI.o.1 HI.o.2.1 HI.o.2.2.1 HI.o.2.2.2 B v l rfl (HA.o.1.eO (H0.o.1.trans (c:=w0.alloc (.cells #[.int .u8 58] 5)) kOf)) w0.heap.size 58 rfl aF.alloc vB (bZ1 hB (H0.o.1.trans (c:=w0.alloc (.cells #[.int .u8 58] 5)) kOf).size) ?_;intro v1 w1 hp;have r1:=(H0.o.2.keep (M:=Nil) (w':=w0.alloc (.cells #[.int .u8 58] 5)) kOf id).keep hp.keep ((HA.o.1.eO (H0.o.1.trans (c:=w0.alloc (.cells #[.int .u8 58] 5)) kOf)).ne (H0.o.2.keep (M:=Nil) (w':=w0.alloc (.cells #[.int .u8 58] 5)) kOf id) zY);have hp1:Put B 5 w v w1 v1 (l++[58]):=(Put.start HA.o.1 (H0.o.1.trans (c:=w0.alloc (.cells #[.int .u8 58] 5)) kOf)).trans hp;obtain ⟨c0,c1,-,-⟩:=r1.two;have H1:=jJ (aI hp1 r1);clear hp hp1 r1))
 go_upto_if 11 with (fail)
 go_cut [0] (fun u wx=>Put B 5 w v wx u (l++58::(if neg z then [45] else []))∧aF wx w.heap.size 25 [.bool g,.slice a n c])
 case first=>
  cases g
  ·go_wp2_with fail
   go_meet
   have e:neg z=false:=HG.o.symm;exact⟨by rw [e];exact H1.o.1,H1.o.2⟩
  ·go_wp2_with (at_builtin;go_loud (refine JV _ rfl _ _ 211 5 rfl i1 underlying211 HI.o.1 HI.o.2.1 HI.o.2.2.1 HI.o.2.2.2 B v1 (l++[58]) rfl (H1.o.1.own.eO (w':=w1.alloc (.cells #[.int .u8 45] 5)) kOf) w1.heap.size 45 rfl aF.alloc (by have:=HA.o.2.2.1;rw [aZ1];simp only [gZ1,gZ2];omega) (bZ1 hB (bZ1 H1.o.1.keep.size zW)) ?_;intro v2 w2 hp;have r2:=(H1.o.2.keep (M:=Nil) (w':=w1.alloc (.cells #[.int .u8 45] 5)) kOf id).keep hp.keep ((H1.o.1.own.eO (w':=w1.alloc (.cells #[.int .u8 45] 5)) kOf).ne (H1.o.2.keep (M:=Nil) (w':=w1.alloc (.cells #[.int .u8 45] 5)) kOf id) zY);have hp2:Put B 5 w v w2 v2 (l++[58]++[45]):=(H1.o.1.more (w2:=w1.alloc (.cells #[.int .u8 45] 5)) kOf).trans hp;have H2:=jJ (aI hp2 r2);clear hp hp2 r2))
   go_meet
   have e:neg z=true:=HG.o.symm;exact⟨by rw [e];have:=H2.o.1;rw [mZ2] at this;exact this,H2.o.2⟩
 case rest=>
  rename World=>wx;obtain ⟨hpx,rx⟩:=hcut;obtain ⟨d0,d1,-,-⟩:=rx.two;obtain ⟨pre,hpre⟩:∃p,p=l++58::(if neg z then [45] else []):=⟨_,rfl⟩;rw [←hpre] at hpx;have hpl:pre.length≤l.length+2:=by rw [hpre,aZ1,gZ1];split<;>simp
  have hzx:=hpx.zn hob hB HA.o.2.1;have hcap:=hzx.2.sl.cap;have hle:=hzx.2.sl.le;have HX:=jJ (aI4 hpx hpl hzx hpre);obtain ⟨L,hL⟩:∃L,L=bH z.natAbs:=⟨_,rfl⟩;have hLn:L.length=n:=by rw [hL];exact hzx.2.len
  have hLx:=HA.o.2.1.2;rw [←hL] at hLx;have HLX:=jJ (aI3 hL hLn hLx);clear hpx rx hpl hzx c0 c1 hpre hL hLn hLx;go_wp2_with fail
  go_loopw [0,18] (fun u i wr=>∃k:Nat,i=.int .i64 k∧k≤n∧Put B 5 w v wr u (pre++iF (L.take k))) (fun _ i _=>n-(intOf i).toNat)
  case atStart=>exact⟨0,rfl,aZ2 _,by rw [List.take_zero,show iF []=[] from rfl,fZ2];exact HX.o.1⟩
  case round=>
   obtain ⟨k,rfl,hk,hput⟩:=hrel;have hlen:(pre++iF (L.take k)).length≤l.length+2+29*k:=by
    have h1:=RY (L.take k) fun x hx=>HLX.o.2.2.lt x (cZ3 hx);rw [aZ1];have h2:=HX.o.2.1;have h3:(L.take k).length≤k:=oU;omega
   have hroom:l.length+2+29*n+2≤70368744177600:=by have h1:=HA.o.2.2;omega
   obtain ⟨txt,htxt⟩:∃t,t=pre++iF (L.take k):=⟨_,rfl⟩;rw [←htxt] at hput hlen;have hBr:B≤wr.heap.size:=bZ1 hB hput.keep.size;have HK:=jJ (aI4 hput hlen hroom htxt);clear hput hlen hroom htxt;by_cases hkn:k<n
   ·have hLr:=HLX.o.2.2.move HK.o.1.keep (M2:=From B) (fun b _ hb=>hob b hb) fun _ _ h=>h;obtain ⟨b,off,rfl,hb,hnb,hc⟩:=hLr.cell hkn;have hx32:lim L k<4294967296:=by
     have h1:k<L.length:=by rw [HLX.o.2.1];exact hkn
     rw [show lim L k=L[k] by simp [lim,List.getD,h1]];exact HLX.o.2.2.lt _ (List.getElem_mem h1)
    have htk:L.take (k+1)=L.take k++[lim L k]:=by
     have h1:k<L.length:=by rw [HLX.o.2.1];exact hkn
     rw [List.take_succ_eq_append_getElem h1,show lim L k=L[k] by simp [lim,List.getD,h1]]
    have HT:=jJ htk;clear hLr htk;generalize lim L k=x at *
    go_wp2_with (first|(at_builtin;go_loud (refine JV _ rfl _ _ 211 5 rfl i1 underlying211 HI.o.1 HI.o.2.1 HI.o.2.2.1 HI.o.2.2.2 B _ txt rfl (HK.o.1.own.eO (w':=wr.alloc (.cells #[.int .u8 32] 5)) kOf) wr.heap.size 32 rfl aF.alloc qA (bZ1 hBr zW) ?_;intro v2 w2 hp;have hp2:=(HK.o.1.more (w2:=wr.alloc (.cells #[.int .u8 32] 5)) kOf).trans hp;have H2:=jJ hp2;clear hp hp2))|(go_at_call 205;go_loud (refine (aLQ x zZ H2.o.own (bZ1 hB H2.o.keep.size) (by rw [aZ1];have h1:=HK.o.2.1;have h2:=HK.o.2.2.1;simp only [gZ1,gZ2];omega)).mono ?_;rintro e w3 ⟨v3,rfl,ho3⟩;have hp3:Put B 5 w v w3 v3 (txt++[32]++d36 x):=H2.o.trans ho3;have H3:=jJ hp3;clear ho3 hp3)))
    go_roundw
    case rel=>
     refine ⟨k+1,zF,hkn,?_⟩;rw [HT.o,aPM,←mZ2,←HK.o.2.2.2,show (32::d36 x:List Nat)=[32]++d36 x from rfl,←mZ2];exact H3.o
    case measure=>exact zI
   ·have ekn:n=k:=zZ;go_wp2_with (at_builtin;go_loud (refine JV _ rfl _ _ 211 5 rfl i1 underlying211 HI.o.1 HI.o.2.1 HI.o.2.2.1 HI.o.2.2.2 B _ txt rfl (HK.o.1.own.eO (w':=wr.alloc (.cells #[.int .u8 59] 5)) kOf) wr.heap.size 59 rfl aF.alloc qA (bZ1 hBr zW) ?_;intro v2 w2 hp;have hp2:=(HK.o.1.more (w2:=wr.alloc (.cells #[.int .u8 59] 5)) kOf).trans hp;have H2:=jJ hp2;clear hp hp2))
    go_ret
    refine ⟨_,rfl,?_⟩;have h1:=H2.o;rw [HK.o.2.2.2,HX.o.2.2.2,eZ1 (by rw [HLX.o.2.1];omega),HLX.o.1] at h1;rw [eD];simpa using h1
def kU (l:List UInt8):List Nat:=l.map (·.toNat)
def lK (u:Nat):List Nat:=kU (Lib.decDigits u)
def bF (i:Int):List Nat:=kU (Lib.itoa i)
theorem OB (l:List UInt8):(kU l).map gG=l.map fun b=>Value.int .u8 (b.toNat:Int):=by simp [kU,gG]
theorem aMG (l:List UInt8):Lib.strCells ⟨l.toArray⟩=(kU l).map gG:=by rw [OB,Lib.strCells]
theorem fO.notNil {w:World} {B:Nat} {E:TypeId} {v:Value} {l:List Nat} (h:fO w B E v l) (hl:l≠[]):v≠.slice none 0 0:=fun e=>by
 rcases h with ⟨-,rfl⟩|⟨g,cap,cur,fz,rfl,-⟩
 ·exact hl rfl
 ·cases e
theorem aDF (w:World) (k:Nat) (os:Array Obj):aA Nil w («Sort».grow (w.drewN k) os):=by
 refine ⟨rfl,rfl,rfl,by simp [«Sort».grow],fun j hj _=>?_⟩;show (w.heap++os)[j]?=w.heap[j]?
 rw [Array.getElem?_append_left hj]
theorem WI {M:Nat→Prop} {w w':World} {B:Nat} (k:aA M w w') (hM:∀b,M b→B≤b) (hB:B≤w.heap.size):Below B w w':=by
 exact⟨k.os,k.tape,k.output,k.size,fun j hj=>k.block j (cZ1 hj hB) fun h=>by have:=hM j h;omega⟩
theorem NC {u:Nat} (h:u<18446744073709551616):(lK u).length≤20:=by
 rw [lK,kU,hZ1,Lib.decDigits_length];rcases Nat.eq_zero_or_pos u with rfl|h0
 ·rw [Lib.nDigits_small zZ];omega
 ·have:=Lib.numDigits_eq u h0 h;split at this<;>omega
section
variable {l:List Nat} {w:World} {v:Value} {B:Nat}
theorem aLH (u:Nat) (hu:u<100) (h:fO w B 5 v l) (hB:B≤w.heap.size) (hl:l.length≤70368744177664) (h0:l≠[]) :
  Calls prog 227 #[v,.int .u64 (u:Int),.int .i64 10] w fun e w'=>∃v',e=.returned v'∧Put B 5 w v w' v' (l++lK u):=by
 have HH:=jJ (aI3 h hl h0);clear h hl h0;obtain ⟨i1,hi1⟩:=info_parts KH;have HI:=jJ hi1;clear hi1;have hlen:=NC (u:=u) zZ;go_enter func227,ntmps227
 go_wp2_with (first
  | (go_at_call 240;refine (Tryz.internal_strconv_small u hu _).mono ?_;rintro e w' ⟨rfl,rfl⟩)
  | (at_builtin;refine aKX _ rfl _ _ 211 9 5 rfl i1 underlying211 underlying9 HI.o.1 HI.o.2.1 HI.o.2.2.1 HI.o.2.2.2 B v l rfl HH.o.1 ⟨(Lib.decDigits u).toArray⟩ (lK u) rfl (aMG _) (by have h1:=HH.o.2.1;omega) hB (HH.o.1.notNil HH.o.2.2) ?_;intro v2 w2 hp;have HP:=jJ hp;clear hp))
 go_ret
 exact⟨_,rfl,HP.o⟩
theorem aMT (u:Nat) (hu:100≤u) (hu64:u<18446744073709551616) (h:fO w B 5 v l) (hB:B≤w.heap.size) (hl:l.length≤70368744177664) (htab:Lib.TabIs prog w "internal/strconv.uint64pow10" .u64 Lib.pow10Tab) :
  Calls prog 227 #[v,.int .u64 (u:Int),.int .i64 10] w fun e w'=>∃v',e=.returned v'∧Put B 5 w v w' v' (l++lK u):=by
 have HH:=jJ (aI h hl);clear h hl;obtain ⟨i1,hi1⟩:=info_parts KH;have HI:=jJ hi1;clear hi1;have hu1:1≤u:=zZ;have hlen:=NC hu64;have hdl:(lK u).length=Lib.nDigits u:=by rw [lK,kU,hZ1,Lib.decDigits_length]
 have hnd:Lib.nDigits u≤20:=zZ;have hal:prog.arrayLen 254=24:=by simp [Program.arrayLen,underlying254]
 have hsl:∀W,(Instr.sliceAt 254 (.pointer (some ⟨w.heap.size,0,none⟩)) none (some (.int .i64 (Lib.nDigits u:Int))) none).run prog W=.ok (.slice (some ⟨w.heap.size,0,none⟩) (Lib.nDigits u) 24) W:=fun W=>by
  rw [run_sliceAt_array_h W 254 ⟨w.heap.size,0,none⟩ (by simp [Program.arrayLen,Program.elem,underlying254]) .i64 (Lib.nDigits u:Int) zZ (by rw [hal];omega)];go_simp
 have hH0:=Lib.holds_zero0 w 254 (Lib.nDigits u) zZ;have hfmt:=Tryz.internal_strconv_formatBase10 w.heap.size 0 24 u (Array.replicate (Lib.nDigits u) 0) (w.alloc (.cells Lib.zeros24 254)) hH0 (by rw [Array.size_replicate];exact Lib.lt_pow_nDigits u) hu64 (by rw [Array.size_replicate];omega);rw [Array.size_replicate] at hfmt;have HF:=jJ (aI4 hH0 hfmt htab hdl);have iu:(100:Int)≤(u:Int):=zZ;clear hH0 hal hfmt htab hdl;go_enter func227,ntmps227
 go_wp2_with (first
  | (go_at_call 241;refine (Tryz.internal_strconv_numDigits u hu1 hu64 _ (Lib.tabIs_alloc HF.o.2.2.1 _)).mono ?_;rintro e w' ⟨rfl,rfl⟩))
 go_at_call 242
 refine HF.o.2.1.mono ?_;rintro e w' ⟨rfl,k,v',dk,rfl,hF⟩;have hcells:∀j u',((lK u).map gG)[j]?=some u'→((«Sort».putRow (fun (b:UInt8)=>Value.int .u8 (b.toNat:Int)) (w.alloc (.cells Lib.zeros24 254)) w.heap.size 0 dk).drewN k).cell? ((⟨w.heap.size,0,none⟩:Addr).add j)=some u':=by
  intro j u' hj;rw [lK,OB] at hj;have hjl:j<(Lib.decDigits u).length:=by
   have h5:=(List.getElem?_eq_some_iff.1 hj).1;rwa [hZ1] at h5
  have e5:((Lib.decDigits u).map fun b=>Value.int .u8 (b.toNat:Int))[j]?=some (Value.int .u8 ((Lib.decDigits u)[j].toNat:Int)):=by simp [hjl]
  rw [e5] at hj;cases hj;rw [Lib.row_is_numeral hF j hjl,Lib.add_plain,World.cell?_drewN];exact «Sort».cell?_putRow (fun (b:UInt8)=>Value.int .u8 (b.toNat:Int)) _ w.heap.size 0 _ dk HF.o.1 (by rw [hF.size,Array.size_replicate]) j (by rw [hF.size];rw [Lib.decDigits_length] at hjl;exact hjl)
 obtain ⟨os,eo⟩:=Lib.fin_at w (.cells Lib.zeros24 254) dk k 0;have hkk:aA Nil w ((«Sort».putRow (fun (b:UInt8)=>Value.int .u8 (b.toNat:Int)) (w.alloc (.cells Lib.zeros24 254)) w.heap.size 0 dk).drewN k):=by rw [eo];exact aDF w k os
 generalize («Sort».putRow (fun (b:UInt8)=>Value.int .u8 (b.toNat:Int)) (w.alloc (.cells Lib.zeros24 254)) w.heap.size 0 dk).drewN k=W2 at hcells hkk⊢;have HZ:=jJ (aI hcells hkk);clear eo hcells hkk;go_wp2_with (at_builtin;refine SX _ rfl _ _ 211 5 rfl i1 underlying211 HI.o.1 HI.o.2.1 HI.o.2.2.1 HI.o.2.2.2 B v l rfl (HH.o.1.eO HZ.o.2) ⟨w.heap.size,0,none⟩ 24 (Lib.nDigits u) (lK u) rfl HF.o.2.2.2 HZ.o.1 (by have h1:=HH.o.2;omega) (bZ1 hB HZ.o.2.size) ?_;intro v2 w3 hp;have HP:=jJ ((Put.start HH.o.1 HZ.o.2).trans hp);clear hp)
 go_ret
 exact⟨_,rfl,HP.o⟩
theorem ZU (u:Nat) (hu64:u<18446744073709551616) (h:fO w B 5 v l) (hB:B≤w.heap.size) (hl:l.length≤70368744177664) (h0:l≠[]) (htab:Lib.TabIs prog w "internal/strconv.uint64pow10" .u64 Lib.pow10Tab) :
  Calls prog 227 #[v,.int .u64 (u:Int),.int .i64 10] w fun e w'=>∃v',e=.returned v'∧Put B 5 w v w' v' (l++lK u):=by
 by_cases hu:u<100
 ·exact aLH u hu h hB hl h0
 ·exact aMT u zZ hu64 h hB hl htab
theorem aNC (i:Int) (hi0:-9223372036854775808≤i) (hi1:i≤9223372036854775807) (h:fO w B 5 v l) (hB:B≤w.heap.size) (hl:l.length≤70368744177663) (h0:l≠[]) (htab:Lib.TabBelow prog B w "internal/strconv.uint64pow10" .u64 Lib.pow10Tab) :
  Calls prog 206 #[v,.int .i64 i,.int .i64 10] w fun e w'=>∃v',e=.returned v'∧Put B 5 w v w' v' (l++bF i):=by
 have HH:=jJ (aI4 h hl h0 htab);clear h hl h0 htab;obtain ⟨i1,hi1'⟩:=info_parts KH;have HI:=jJ hi1';clear hi1';by_cases hneg:i<0
 ·have e1:bF i=[45]++lK i.natAbs:=by rw [bF,Lib.itoa,if_pos hneg];rfl
  have E1:=jJ e1;clear e1;go_enter func206,ntmps206
  go_wp2_with (at_builtin;go_loud (refine JV _ rfl _ _ 211 5 rfl i1 underlying211 HI.o.1 HI.o.2.1 HI.o.2.2.1 HI.o.2.2.2 B v l rfl (HH.o.1.eO (w':=w.alloc (.cells #[.int .u8 45] 5)) kOf) w.heap.size 45 rfl aF.alloc HH.o.2.1 (bZ1 hB zW) ?_;intro v1 w1 hp;have hp1:=(Put.start HH.o.1 (w1:=w.alloc (.cells #[.int .u8 45] 5)) kOf).trans hp;have H1:=jJ hp1;clear hp hp1))
  have hw:IntKind.u64.wrap (-IntKind.u64.wrap i)=(i.natAbs:Int):=by
   simp only [IntKind.wrap,IntKind.bits,IntKind.signed,Bool.false_and,Bool.false_eq_true,if_false];omega
  rw [hw];refine (ZU (w:=w1) i.natAbs zZ H1.o.own (bZ1 hB H1.o.keep.size) (by rw [aZ1];have:=HH.o.2.1;simp;omega) zW (HH.o.2.2.2.on (WI H1.o.keep (fun b hb=>(HH.o.1.lt b hb).1) hB)).here).mono ?_;rintro e w2 ⟨v2,rfl,hp2⟩;have hp3:=H1.o.trans hp2;rw [mZ2,←E1.out] at hp3;go_wp2
  go_ret
  exact⟨_,rfl,hp3⟩
 ·have e1:bF i=lK i.toNat:=by rw [bF,Lib.itoa,if_neg hneg];rfl
  have E1:=jJ e1;clear e1;have hcall:=ZU (w:=w) i.toNat zZ HH.o.1 hB (by have:=HH.o.2.1;omega) HH.o.2.2.1 HH.o.2.2.2.here;rw [show ((i.toNat:Nat):Int)=i by omega,←E1.out] at hcall;have HC:=jJ hcall;clear hcall;go_enter func206,ntmps206
  go_wp2_with (go_at_call 227;refine HC.o.mono ?_;rintro e w1 ⟨v1,rfl,hp⟩)
  go_ret
  exact⟨_,rfl,hp⟩
theorem aON (i:Int) (hi0:-9223372036854775808≤i) (hi1:i≤9223372036854775807) (h:fO w B 5 v l) (hB:B≤w.heap.size) (hl:l.length≤70368744177663) (h0:l≠[]) (htab:Lib.TabBelow prog B w "internal/strconv.uint64pow10" .u64 Lib.pow10Tab) :
  Calls prog 180 #[v,.int .i64 i,.int .i64 10] w fun e w'=>∃v',e=.returned v'∧Put B 5 w v w' v' (l++bF i):=by
 have HC:=jJ (aNC i hi0 hi1 h hB hl h0 htab);clear h hl h0 htab;go_enter func180,ntmps180
 go_wp2_with (go_at_call 206;refine HC.o.mono ?_;rintro e w1 ⟨v1,rfl,hp⟩)
 go_ret
 exact⟨_,rfl,hp⟩
end
section
variable {a:Option Addr} {M:Nat→Prop} {l:List Int} {w:World} {n c i:Nat}
structure aS where
 kind:Int
 d:Int
 t:aV
 var:Int
 kids:List Int
def RI (cs:List Value) (x:Int):Prop:=cs=[.int .i64 x]
def cE (M:Nat→Prop) (w:World) (a:Option Addr) (n c:Nat) (l:List Int):Prop:=eU M w 1 RI 0 a n c l
theorem cE.eO {w':World} (h:cE M w a n c l) (k:aA Nil w w'):cE M w' a n c l:=eU.move h k (fun _ _ h=>h.elim) (fun _ _=>id) fun _ _ h=>h
structure jL (M:Nat→Prop) (w:World) (gd:Bool) (ad:Option Addr) (nd cd:Nat) (ap:Option Addr) (np cp:Nat) (gk:Bool) (ak:Option Addr) (nk ck:Nat) (aq:Option Addr) (nq cq:Nat) (N:aS):Prop where
 d:ZN M w gd ad nd cd N.d
 t:eI M w ap np cp gk ak nk ck N.t
 kids:cE M w aq nq cq N.kids
theorem bA (h:cE M w a n c l) (hi:i<n):∃b off,a=some ⟨b,off,none⟩∧w.cell? ⟨b,off+i,none⟩=some (.int .i64 (l.getD i 0)):=by
 obtain ⟨f,hs,hr⟩:=h.ex;obtain ⟨b,off,rfl,hb,hn,hc⟩:=hs.at zZ;refine ⟨b,off,rfl,?_⟩;have h1:=hc i 0 hi zZ;obtain ⟨h2,h3⟩:=hr i hi;rw [Nat.mul_one,Nat.add_zero] at h1;rw [h1,show (f i)=[.int .i64 (l.getD i 0)] from h3];rfl
def strOf (l:List Nat):ByteArray:=⟨(l.map UInt8.ofNat).toArray⟩
theorem aSA (l:List UInt8):strOf (kU l)=⟨l.toArray⟩:=by
 unfold strOf kU;rw [List.map_map];congr 2;conv=>rhs;rw [←List.map_id l]
 exact List.map_congr_left fun x _=>zW
theorem bP (l m:List Nat):strOf l++strOf m=strOf (l++m):=by
 apply ByteArray.ext;simp [strOf,ByteArray.data_append]
theorem aT (l:List Nat):(strOf l).size=l.length:=by simp [strOf,ByteArray.size]
theorem bQ {i:Int} (h0:-9223372036854775808≤i) (h1:i≤9223372036854775807):(bF i).length≤21:=by
 rw [bF,Lib.itoa];split
 ·have:=NC (u:=i.natAbs) zZ;rw [lK] at this;simp only [kU,dZ2,gZ1] at this⊢;omega
 ·have:=NC (u:=i.toNat) zZ;rw [lK] at this;omega
def cD (l:aM):List Nat:=l.flatMap fun p=>bF p.1++eD p.2
def cT (l:List Int):List Nat:=l.flatMap fun k=>bF k++[44]
theorem aNK (l:List Int) (x:Int):cT (l++[x])=cT l++(bF x++[44]):=by simp [cT]
theorem RQ:∀(l:List Int),(∀x∈l,-9223372036854775808≤x∧x≤9223372036854775807)→(cT l).length≤22*l.length
 | [],_=>by simp [cT]
 | x::l,h=>by
  have h1:=RQ l fun y hy=>h y (lZ1 _ hy);have h2:=bQ (h x (kZ1 ..)).1 (h x (kZ1 ..)).2;rw [show cT (x::l)=(bF x++[44])++cT l from rfl,aZ1,aZ1,gZ1];simp only [gZ1,gZ2];omega
def bB (N:aS):List Nat:=bF N.kind++[32]++(if N.kind=2∨N.kind=3∨N.kind=4 then eD N.d++eD N.t.k++cD N.t.parts else (if N.kind=7∨N.kind=8 then bF N.var++[58] else [])++cT N.kids)
def I64 (v:Int):Prop:=-9223372036854775808≤v∧v≤9223372036854775807
end
section
variable {M:Nat→Prop} {w w':World} {B cd np cp nk ck nq cq:Nat} {v d z n:Int} {l:aM} {gd gk:Bool} {ad ap ak aq:Option Addr}
def Tab (B:Nat) (w:World):Prop:=B≤w.heap.size∧Lib.TabBelow prog B w "internal/strconv.uint64pow10" .u64 Lib.pow10Tab
theorem Tab.keep (h:Tab B w) (k:aA M w w') (hM:∀b,M b→B≤b):Tab B w':=⟨bZ1 h.1 k.size,h.2.on (WI k hM h.1)⟩
theorem Tab.eO (h:Tab B w) (k:aA Nil w w'):Tab B w':=h.keep k fun _ h=>h.elim
theorem BJ (hn:I64 n) (h:Tab B w):Calls prog 178 #[.int .i64 n] w fun e w'=>e=.returned (.string (strOf (bF n)))∧aA Nil w w':=by
 refine (Tryz.strconv_Itoa n hn.1 hn.2 w h.2.here).mono ?_;rintro e w' ⟨rfl,k,os,rfl⟩;exact⟨by rw [bF,aSA],aDF w k os⟩
theorem bDH {nd:Nat} {q:List Int} (hT:Tab B w) (h:jL M w gd ad nd cd ap np cp gk ak nk ck aq nq cq ⟨5,d,⟨l,z⟩,v,q⟩) (hv:I64 v) (hq:∀x∈q,I64 x) (hn:nq≤16777216) :
  Calls prog 127 #[.agg #[.int .i64 5,.bool gd,.slice ad nd cd,.slice ap np cp,.bool gk,.slice ak nk ck,.int .i64 v,.slice aq nq cq]] w fun e w'=>e=.returned (.string (strOf (bB ⟨5,d,⟨l,z⟩,v,q⟩)))∧aA Nil w w':=by
 have hkt:bB ⟨5,d,⟨l,z⟩,v,q⟩=bF 5++[32]++cT q:=rX;have hkI:I64 5:=vS;have hkd:=h.kids;have HA:=jJ (aI6 hT hkd hkI hv hq hkt);clear hT h hkI hv hq hkt hkd;go_enter func127,ntmps127
 go_upto_region 1 with (fail)
 obtain ⟨w0,e_1,k0,r0⟩:=bx1 w 59 [.int .i64 5,.bool gd,.slice ad nd cd,.slice ap np cp,.bool gk,.slice ak nk ck,.int .i64 v,.slice aq nq cq];rw [e_1];clear e_1;have H0:=jJ (aI k0 r0);have c0:w0.cell? ⟨w.heap.size,0,none⟩=some (.int .i64 5):=r0.cell 0;have hs0:(strOf (bF 5)).size≤21:=yC;clear k0 r0;go_upto_region 2 with (go_at_call 178;refine (BJ HA.o.2.2.1 (HA.o.1.eO H0.o.1)).mono ?_;rintro e w1 ⟨rfl,hk1⟩;have r1:=H0.o.2.keep hk1 id;have d0:w1.cell? ⟨w.heap.size,0,none⟩=some (.int .i64 5):=r1.cell 0;have d6:w1.cell? ⟨w.heap.size,6,none⟩=some (.int .i64 v):=r1.cell 6;have d7:w1.cell? ⟨w.heap.size,7,none⟩=some (.slice aq nq cq):=r1.cell 7;have H1:=jJ (aI hk1 r1);clear hk1 r1)
 rw [show strOf (bF 5)++(⟨#[32]⟩:ByteArray)=strOf (bF 5++[32]) from bP _ [32]];obtain ⟨t0,ht0⟩:∃t,t=bF 5++[32]:=⟨_,rfl⟩;rw [←ht0];have hs1:(strOf t0).size≤22:=wC;have HT0:=jJ ht0;have hs2:(strOf (bF v)).size≤21:=wT;clear ht0 hs0 c0;go_upto_region 17 with fail
 obtain ⟨t1,ht1⟩:∃t,t=t0:=⟨_,rfl⟩;rw [←ht1];rw [HT0.o] at ht1;have hs4:(strOf t1).size≤44:=by rw [ht1,←HT0.o];omega
 clear hs1 hs2 d0 d6;have kw:aA Nil w w1:=H0.o.1.trans H1.o.1;have HT1:=jJ (aI ht1 kw);have hkd:=HA.o.2.1.eO kw;have hle:=(hkd.ex.elim fun f h=>h.1.le);have hcap:=(hkd.ex.elim fun f h=>h.1.cap);have hlen:q.length=nq:=eU.len hkd;have HKD:=jJ (aI hkd hlen);clear ht1 kw hkd hlen;go_wp2_with fail
 go_loopw [3,59] (fun u i wr=>∃n:Nat,i=.int .i64 n∧n≤nq∧u=.string (strOf (t1++cT (q.take n)))∧aA Nil w1 wr) (fun _ i _=>nq-(intOf i).toNat)
 case atStart=>exact xY
 case round=>exact zS
theorem bDD {nd:Nat} {q:List Int} (hT:Tab B w) (h:jL M w gd ad nd cd ap np cp gk ak nk ck aq nq cq ⟨6,d,⟨l,z⟩,v,q⟩) (hv:I64 v) (hq:∀x∈q,I64 x) (hn:nq≤16777216) :
  Calls prog 127 #[.agg #[.int .i64 6,.bool gd,.slice ad nd cd,.slice ap np cp,.bool gk,.slice ak nk ck,.int .i64 v,.slice aq nq cq]] w fun e w'=>e=.returned (.string (strOf (bB ⟨6,d,⟨l,z⟩,v,q⟩)))∧aA Nil w w':=by
 have hkt:bB ⟨6,d,⟨l,z⟩,v,q⟩=bF 6++[32]++cT q:=rX;have hkI:I64 6:=vS;have hkd:=h.kids;have HA:=jJ (aI6 hT hkd hkI hv hq hkt);clear hT h hkI hv hq hkt hkd;go_enter func127,ntmps127
 go_upto_region 1 with (fail)
 obtain ⟨w0,e_2,k0,r0⟩:=bx1 w 59 [.int .i64 6,.bool gd,.slice ad nd cd,.slice ap np cp,.bool gk,.slice ak nk ck,.int .i64 v,.slice aq nq cq];rw [e_2];clear e_2;have H0:=jJ (aI k0 r0);have c0:w0.cell? ⟨w.heap.size,0,none⟩=some (.int .i64 6):=r0.cell 0;have hs0:(strOf (bF 6)).size≤21:=yC;clear k0 r0;go_upto_region 2 with (go_at_call 178;refine (BJ HA.o.2.2.1 (HA.o.1.eO H0.o.1)).mono ?_;rintro e w1 ⟨rfl,hk1⟩;have r1:=H0.o.2.keep hk1 id;have d0:w1.cell? ⟨w.heap.size,0,none⟩=some (.int .i64 6):=r1.cell 0;have d6:w1.cell? ⟨w.heap.size,6,none⟩=some (.int .i64 v):=r1.cell 6;have d7:w1.cell? ⟨w.heap.size,7,none⟩=some (.slice aq nq cq):=r1.cell 7;have H1:=jJ (aI hk1 r1);clear hk1 r1)
 rw [show strOf (bF 6)++(⟨#[32]⟩:ByteArray)=strOf (bF 6++[32]) from bP _ [32]];obtain ⟨t0,ht0⟩:∃t,t=bF 6++[32]:=⟨_,rfl⟩;rw [←ht0];have hs1:(strOf t0).size≤22:=wC;have HT0:=jJ ht0;have hs2:(strOf (bF v)).size≤21:=wT;clear ht0 hs0 c0;go_upto_region 17 with fail
 obtain ⟨t1,ht1⟩:∃t,t=t0:=⟨_,rfl⟩;rw [←ht1];rw [HT0.o] at ht1;have hs4:(strOf t1).size≤44:=by rw [ht1,←HT0.o];omega
 clear hs1 hs2 d0 d6;have kw:aA Nil w w1:=H0.o.1.trans H1.o.1;have HT1:=jJ (aI ht1 kw);have hkd:=HA.o.2.1.eO kw;have hle:=(hkd.ex.elim fun f h=>h.1.le);have hcap:=(hkd.ex.elim fun f h=>h.1.cap);have hlen:q.length=nq:=eU.len hkd;have HKD:=jJ (aI hkd hlen);clear ht1 kw hkd hlen;go_wp2_with fail
 go_loopw [3,59] (fun u i wr=>∃n:Nat,i=.int .i64 n∧n≤nq∧u=.string (strOf (t1++cT (q.take n)))∧aA Nil w1 wr) (fun _ i _=>nq-(intOf i).toNat)
 case atStart=>exact xY
 case round=>exact zS
theorem bCX {nd:Nat} {q:List Int} (hT:Tab B w) (h:jL M w gd ad nd cd ap np cp gk ak nk ck aq nq cq ⟨7,d,⟨l,z⟩,v,q⟩) (hv:I64 v) (hq:∀x∈q,I64 x) (hn:nq≤16777216) :
  Calls prog 127 #[.agg #[.int .i64 7,.bool gd,.slice ad nd cd,.slice ap np cp,.bool gk,.slice ak nk ck,.int .i64 v,.slice aq nq cq]] w fun e w'=>e=.returned (.string (strOf (bB ⟨7,d,⟨l,z⟩,v,q⟩)))∧aA Nil w w':=by
 have hkt:bB ⟨7,d,⟨l,z⟩,v,q⟩=bF 7++[32]++(bF v++[58])++cT q:=sF;have hkI:I64 7:=vS;have hkd:=h.kids;have HA:=jJ (aI6 hT hkd hkI hv hq hkt);clear hT h hkI hv hq hkt hkd;go_enter func127,ntmps127
 go_upto_region 1 with (fail)
 obtain ⟨w0,e_3,k0,r0⟩:=bx1 w 59 [.int .i64 7,.bool gd,.slice ad nd cd,.slice ap np cp,.bool gk,.slice ak nk ck,.int .i64 v,.slice aq nq cq];rw [e_3];clear e_3;have H0:=jJ (aI k0 r0);have c0:w0.cell? ⟨w.heap.size,0,none⟩=some (.int .i64 7):=r0.cell 0;have hs0:(strOf (bF 7)).size≤21:=yC;clear k0 r0;go_upto_region 2 with (go_at_call 178;refine (BJ HA.o.2.2.1 (HA.o.1.eO H0.o.1)).mono ?_;rintro e w1 ⟨rfl,hk1⟩;have r1:=H0.o.2.keep hk1 id;have d0:w1.cell? ⟨w.heap.size,0,none⟩=some (.int .i64 7):=r1.cell 0;have d6:w1.cell? ⟨w.heap.size,6,none⟩=some (.int .i64 v):=r1.cell 6;have d7:w1.cell? ⟨w.heap.size,7,none⟩=some (.slice aq nq cq):=r1.cell 7;have H1:=jJ (aI hk1 r1);clear hk1 r1)
 rw [show strOf (bF 7)++(⟨#[32]⟩:ByteArray)=strOf (bF 7++[32]) from bP _ [32]];obtain ⟨t0,ht0⟩:∃t,t=bF 7++[32]:=⟨_,rfl⟩;rw [←ht0];have hs1:(strOf t0).size≤22:=wC;have HT0:=jJ ht0;have hs2:(strOf (bF v)).size≤21:=wT;clear ht0 hs0 c0;have hs3:(strOf (bF v++[58])).size≤22:=by rw [aT,aZ1];rw [aT] at hs2;simp;omega
 have he3:strOf (bF v)++(⟨#[58]⟩:ByteArray)=strOf (bF v++[58]):=bP _ [58];go_upto_region 17 with (go_at_call 178;refine (BJ HA.o.2.2.2.1 ((HA.o.1.eO H0.o.1).eO H1.o.1)).mono ?_;rintro e w2 ⟨rfl,hk2⟩;have r2:=H1.o.2.keep hk2 id;have e7:w2.cell? ⟨w.heap.size,7,none⟩=some (.slice aq nq cq):=r2.cell 7;have H2:=jJ (aI hk2 r2);clear hk2 r2 d7)
 try rw [he3]
 rw [bP t0];obtain ⟨t1,ht1⟩:∃t,t=t0++(bF v++[58]):=⟨_,rfl⟩;rw [←ht1];rw [HT0.o] at ht1;have hs4:(strOf t1).size≤44:=qL;clear hs1 hs2 hs3 he3 d0 d6;have kw:aA Nil w w2:=(H0.o.1.trans H1.o.1).trans H2.o.1;have HT1:=jJ (aI ht1 kw);have hkd:=HA.o.2.1.eO kw;have hle:=(hkd.ex.elim fun f h=>h.1.le);have hcap:=(hkd.ex.elim fun f h=>h.1.cap);have hlen:q.length=nq:=eU.len hkd;have HKD:=jJ (aI hkd hlen);clear ht1 kw hkd hlen;go_wp2_with fail
 go_loopw [3,59] (fun u i wr=>∃n:Nat,i=.int .i64 n∧n≤nq∧u=.string (strOf (t1++cT (q.take n)))∧aA Nil w2 wr) (fun _ i _=>nq-(intOf i).toNat)
 case atStart=>exact xY
 case round=>exact zS
theorem bDA {nd:Nat} {q:List Int} (hT:Tab B w) (h:jL M w gd ad nd cd ap np cp gk ak nk ck aq nq cq ⟨8,d,⟨l,z⟩,v,q⟩) (hv:I64 v) (hq:∀x∈q,I64 x) (hn:nq≤16777216) :
  Calls prog 127 #[.agg #[.int .i64 8,.bool gd,.slice ad nd cd,.slice ap np cp,.bool gk,.slice ak nk ck,.int .i64 v,.slice aq nq cq]] w fun e w'=>e=.returned (.string (strOf (bB ⟨8,d,⟨l,z⟩,v,q⟩)))∧aA Nil w w':=by
 have hkt:bB ⟨8,d,⟨l,z⟩,v,q⟩=bF 8++[32]++(bF v++[58])++cT q:=sF;have hkI:I64 8:=vS;have hkd:=h.kids;have HA:=jJ (aI6 hT hkd hkI hv hq hkt);clear hT h hkI hv hq hkt hkd;go_enter func127,ntmps127
 go_upto_region 1 with (fail)
 obtain ⟨w0,e_4,k0,r0⟩:=bx1 w 59 [.int .i64 8,.bool gd,.slice ad nd cd,.slice ap np cp,.bool gk,.slice ak nk ck,.int .i64 v,.slice aq nq cq];rw [e_4];clear e_4;have H0:=jJ (aI k0 r0);have c0:w0.cell? ⟨w.heap.size,0,none⟩=some (.int .i64 8):=r0.cell 0;have hs0:(strOf (bF 8)).size≤21:=yC;clear k0 r0;go_upto_region 2 with (go_at_call 178;refine (BJ HA.o.2.2.1 (HA.o.1.eO H0.o.1)).mono ?_;rintro e w1 ⟨rfl,hk1⟩;have r1:=H0.o.2.keep hk1 id;have d0:w1.cell? ⟨w.heap.size,0,none⟩=some (.int .i64 8):=r1.cell 0;have d6:w1.cell? ⟨w.heap.size,6,none⟩=some (.int .i64 v):=r1.cell 6;have d7:w1.cell? ⟨w.heap.size,7,none⟩=some (.slice aq nq cq):=r1.cell 7;have H1:=jJ (aI hk1 r1);clear hk1 r1)
 rw [show strOf (bF 8)++(⟨#[32]⟩:ByteArray)=strOf (bF 8++[32]) from bP _ [32]];obtain ⟨t0,ht0⟩:∃t,t=bF 8++[32]:=⟨_,rfl⟩;rw [←ht0];have hs1:(strOf t0).size≤22:=wC;have HT0:=jJ ht0;have hs2:(strOf (bF v)).size≤21:=wT;clear ht0 hs0 c0;have hs3:(strOf (bF v++[58])).size≤22:=by rw [aT,aZ1];rw [aT] at hs2;simp;omega
 have he3:strOf (bF v)++(⟨#[58]⟩:ByteArray)=strOf (bF v++[58]):=bP _ [58];go_upto_region 17 with (go_at_call 178;refine (BJ HA.o.2.2.2.1 ((HA.o.1.eO H0.o.1).eO H1.o.1)).mono ?_;rintro e w2 ⟨rfl,hk2⟩;have r2:=H1.o.2.keep hk2 id;have e7:w2.cell? ⟨w.heap.size,7,none⟩=some (.slice aq nq cq):=r2.cell 7;have H2:=jJ (aI hk2 r2);clear hk2 r2 d7)
 try rw [he3]
 rw [bP t0];obtain ⟨t1,ht1⟩:∃t,t=t0++(bF v++[58]):=⟨_,rfl⟩;rw [←ht1];rw [HT0.o] at ht1;have hs4:(strOf t1).size≤44:=qL;clear hs1 hs2 hs3 he3 d0 d6;have kw:aA Nil w w2:=(H0.o.1.trans H1.o.1).trans H2.o.1;have HT1:=jJ (aI ht1 kw);have hkd:=HA.o.2.1.eO kw;have hle:=(hkd.ex.elim fun f h=>h.1.le);have hcap:=(hkd.ex.elim fun f h=>h.1.cap);have hlen:q.length=nq:=eU.len hkd;have HKD:=jJ (aI hkd hlen);clear ht1 kw hkd hlen;go_wp2_with fail
 go_loopw [3,59] (fun u i wr=>∃n:Nat,i=.int .i64 n∧n≤nq∧u=.string (strOf (t1++cT (q.take n)))∧aA Nil w2 wr) (fun _ i _=>nq-(intOf i).toNat)
 case atStart=>exact xY
 case round=>exact zS
end
section
variable {l:List Nat} {w:World} {P:Program} {E:TypeId} {B:Nat} {zs:List Int} {k:IntKind} {v:Value}
def Byt (l:List Nat):Prop:=∀b∈l,b<256
theorem Byt.append {m:List Nat} (h:Byt l) (k:Byt m):Byt (l++m):=fun b hb=>(jZ1.1 hb).elim (h b) (k b)
theorem aXH (l:List UInt8):Byt (kU l):=fun b hb=>by obtain ⟨x,_,rfl⟩:=iZ2.1 hb;exact x.toNat_lt
theorem KG (i:Int):Byt (bF i):=aXH _
theorem bAL (u:Nat):Byt (d36 u):=by
 induction u using Nat.strongRecOn with
 | ind u ih=>
  have hd:∀d,d<36→jH d<256:=fun d h=>by unfold jH;split<;>omega
  by_cases hu:u<36
  ·rw [GY hu];intro b hb;rw [dZ1.1 hb];exact hd u hu
  ·rw [LG hu];exact (ih (u / 36) zZ).append fun b hb=>by rw [dZ1.1 hb];exact hd _ (Nat.mod_lt _ zZ)
theorem aQP (l:List Nat):Byt (iF l):=fun b hb=>by
 obtain ⟨x,_,h⟩:=fZ3.1 hb;rcases mZ1.1 h with rfl|h
 ·omega
 ·exact bAL x b h
theorem KA (z:Int):Byt (eD z):=fun b hb=>by
 rcases mZ1.1 hb with rfl|hb
 ·omega
 ·rcases jZ1.1 hb with hb|hb
  ·split at hb
   ·exact vT
   ·cases hb
  ·rcases jZ1.1 hb with hb|hb
   ·exact aQP _ b hb
   ·exact vT
theorem aAB (l:aM):Byt (cD l):=fun b hb=>by
 obtain ⟨p,_,h⟩:=fZ3.1 hb;exact ((KG p.1).append (KA p.2)) b h
theorem dL (z:Int):(eD z).length≤3+32*eP z.natAbs:=by
 have h1:=RY (bH z.natAbs) (fun x hx=>SE z.natAbs x hx);have h2:eP z.natAbs=(bH z.natAbs).length:=rfl;rw [eD,gZ1,aZ1,aZ1];have h3:(if neg z=true then [45] else ([]:List Nat)).length≤1:=by split<;>simp
 simp only [gZ1,gZ2];omega
def jE:aM→Nat
 | []=>0
 | p::l=>24+32*eP p.2.natAbs+jE l
theorem SG:∀(l m:aM),jE (l++m)=jE l+jE m
 | [],m=>by simp [jE]
 | p::l,m=>by rw [hZ3,jE,jE,SG l m];omega
theorem aMR (l:aM) (p:Int × Int):cD (l++[p])=cD l++(bF p.1++eD p.2):=by simp [cD]
theorem RO:∀(l:aM),(∀p∈l,-9223372036854775808≤p.1∧p.1≤9223372036854775807)→(cD l).length≤jE l
 | [],_=>by simp [cD]
 | p::l,h=>by
  have h1:=RO l fun y hy=>h y (lZ1 _ hy);have h2:=bQ (h p (kZ1 ..)).1 (h p (kZ1 ..)).2;have h3:=dL p.2;rw [show cD (p::l)=(bF p.1++eD p.2)++cD l from rfl,aZ1,aZ1,jE];omega
theorem NW (h:Byt l):kU (l.map UInt8.ofNat)=l:=by
 unfold kU;rw [List.map_map];conv=>rhs;rw [←List.map_id l]
 exact List.map_congr_left fun x hx=>by have:=h x hx;simp;omega
theorem VO (hl:Byt l) (hB:B≤w.heap.size) (hm:l.length≤maxLen) :
  fO (w.drew.alloc (.cells (bytesRow (strOf l) (grownCap w (strOf l).size 0 E)) E ((bytesRow (strOf l) (grownCap w (strOf l).size 0 E)).size,(bytesRow (strOf l) (grownCap w (strOf l).size 0 E)).size+1))) B E (.slice (some ⟨w.heap.size,0,none⟩) (strOf l).size (grownCap w (strOf l).size 0 E)) l:=by
 have hge:=grownCap_ge w (strOf l).size 0 E;have hle:=grownCap_le_maxLen w (strOf l).size 0 E (by rw [aT];exact hm);rw [aT] at hge hle⊢;refine .inr ⟨w.heap.size,_,_,_,rfl,hB,heap_alloc_new w.drew _,.inr (bZ2 _),hge,hle,?_,?_⟩
 ·simp [bytesRow,strOf,ByteArray.size];omega
 ·have hb:(strOf l).data.toList.map (fun b=>Value.int .u8 (b.toNat:Int))=l.map gG:=by
   rw [show (strOf l).data.toList=l.map UInt8.ofNat by simp [strOf],←OB,NW hl]
  simp only [bytesRow,Array.toList_append,Array.toList_map];rw [List.take_left' (by simp [strOf])];exact hb
theorem fO.text (h:fO w B E v l) (hl:Byt l) (h0:l≠[]) (src dst:TypeId) (hs:P.underlying src=some (.slice E)) (he:P.underlying E=some (.int .u8)) (hd:P.underlying dst=some .string) :
  (convert src dst v).run P w=.ok (.string (strOf l)) w:=by
 have hc:=fun g=>h.cells (g:=g);rcases h with ⟨rfl,rfl⟩|⟨g,cap,cur,fz,rfl,-⟩
 ·exact absurd rfl h0
 ·have h1:=run_convert_bytes_back (P:=P) w src dst E ⟨g,0,none⟩ cap (l.map UInt8.ofNat) hs he hd fun j hj=>by
   refine hc g rfl j _ ?_;have e:=OB (l.map UInt8.ofNat);rw [NW hl] at e;rw [e,List.getElem?_map,jZ2 hj];rfl
  rw [hZ1] at h1;exact h1
theorem bBL {B':Nat} {name:String} (h:Lib.TabBelow P B w name k zs) (hB:B≤B'):Lib.TabBelow P B' w name k zs:=fun w' hb=>h w' ⟨hb.os,hb.tape,hb.output,hb.size,fun j hj=>hb.block j (cZ1 hj hB)⟩
end
section
variable {w:World} {B:Nat} {v d z:Int} {l:aM} {gd gk:Bool} {ad ap ak aq:Option Addr}
theorem key2 {nd cd np cp nk ck nq cq:Nat} {q:List Int} (hT:Tab B w) (h:jL Nil w gd ad nd cd ap np cp gk ak nk ck aq nq cq ⟨2,d,⟨l,z⟩,v,q⟩) (hroom:32*eP d.natAbs+32*eP z.natAbs+jE l≤70368744177000) :
  Calls prog 127 #[.agg #[.int .i64 2,.bool gd,.slice ad nd cd,.slice ap np cp,.bool gk,.slice ak nk ck,.int .i64 v,.slice aq nq cq]] w fun e w'=>e=.returned (.string (strOf (bB ⟨2,d,⟨l,z⟩,v,q⟩)))∧aA Nil w w':=by
 have hkt:bB ⟨2,d,⟨l,z⟩,v,q⟩=bF 2++[32]++(eD d++eD z++cD l):=uJ;have hkI:I64 2:=vS;have hzd:ZN (From w.heap.size) w gd ad nd cd d:=h.d.move (aA.refl Nil w) (fun _ _ h=>h.elim) fun b hb hf=>yE;have hzk:ZN (From w.heap.size) w gk ak nk ck z:=h.t.2.move (aA.refl Nil w) (fun _ _ h=>h.elim) fun b hb hf=>yE;have hp:cV (From w.heap.size) (From w.heap.size) w ap np cp l:=h.t.1.move (M1':=From w.heap.size) (M2':=From w.heap.size) (aA.refl Nil w) (fun _ _ h=>h.elim) (fun b hb hf=>yE) (fun _ _ h=>h.elim) fun b hb hf=>yE;have HA:=jJ (aI7 hT hzd hkI hkt hzk hp hroom);clear hT h hkI hkt hzd hzk hp hroom;go_enter func127,ntmps127
 go_upto_region 1 with (fail)
 obtain ⟨w0,e_1,k0,r0⟩:=bx1 w 59 [.int .i64 2,.bool gd,.slice ad nd cd,.slice ap np cp,.bool gk,.slice ak nk ck,.int .i64 v,.slice aq nq cq];rw [e_1];clear e_1;have H0:=jJ (aI k0 r0);have c0:w0.cell? ⟨w.heap.size,0,none⟩=some (.int .i64 2):=r0.cell 0;have hs0:(strOf (bF 2)).size≤21:=yC;clear k0 r0;go_upto_region 2 with (go_at_call 178;refine (BJ HA.o.2.2.1 (HA.o.1.eO H0.o.1)).mono ?_;rintro e w1 ⟨rfl,hk1⟩;have r1:=H0.o.2.keep hk1 id;have d0:w1.cell? ⟨w.heap.size,0,none⟩=some (.int .i64 2):=r1.cell 0;have H1:=jJ (aI hk1 r1);clear hk1 r1)
 rw [show strOf (bF 2)++(⟨#[32]⟩:ByteArray)=strOf (bF 2++[32]) from bP _ [32]];obtain ⟨t0,ht0⟩:∃t,t=bF 2++[32]:=⟨_,rfl⟩;rw [←ht0];have hs1:t0.length≤22:=tU;have hb0:Byt t0:=wQ;have hne0:t0≠[]:=by rw [ht0];simp
 have hcv:=run_bytes_of_string (P:=prog) w1 9 211 5 (strOf t0) underlying9 underlying211 underlying5;have hw1:w.heap.size≤w1.heap.size:=(H0.o.1.trans H1.o.1).size;have hown:=VO (w:=w1) (B:=w.heap.size) (E:=5) hb0 hw1 zC;have hk2:aA Nil w1 (w1.drew.alloc (.cells (bytesRow (strOf t0) (grownCap w1 (strOf t0).size 0 5)) 5 ((bytesRow (strOf t0) (grownCap w1 (strOf t0).size 0 5)).size,(bytesRow (strOf t0) (grownCap w1 (strOf t0).size 0 5)).size+1))):=((aA.refl Nil w1).drew).alloc _;generalize w1.drew.alloc (.cells (bytesRow (strOf t0) (grownCap w1 (strOf t0).size 0 5)) 5 ((bytesRow (strOf t0) (grownCap w1 (strOf t0).size 0 5)).size,(bytesRow (strOf t0) (grownCap w1 (strOf t0).size 0 5)).size+1))=w2 at *
 generalize Value.slice (some ⟨w1.heap.size,0,none⟩) (strOf t0).size (grownCap w1 (strOf t0).size 0 5)=v2 at *
 have r2:=H1.o.2.keep hk2 id;have e1:w2.cell? ⟨w.heap.size,1,none⟩=some (.bool gd):=r2.cell 1;have e2:w2.cell? ⟨w.heap.size,2,none⟩=some (.slice ad nd cd):=r2.cell 2;have kw2:=(H0.o.1.trans H1.o.1).trans hk2;have HT0:=jJ (aI4 ht0 hs1 hb0 hne0);have H2:=jJ (aI3 hown kw2 r2);have HC:=jJ hcv;clear ht0 hs0 c0 hs1 hb0 hne0 hcv hown hk2 r2 kw2;go_upto_region 6 with fail
 go_wp2_with fail
 rw [HC.o];have HN:=jJ (cZ1 (show w.heap.size<w.heap.size+1 by omega) (show w.heap.size+1≤w2.heap.size by have:=H2.o.2.2.lt;omega));go_upto_region 7 with (go_at_call 179;go_loud (refine (EK (B:=w.heap.size) H2.o.1 H2.o.2.1.size (HA.o.2.1.move H2.o.2.1 (fun _ _ h=>h.elim) fun _ _ h=>h) uQ).mono ?_;rintro e w3 ⟨v3,rfl,hp⟩;have r3:=H2.o.2.2.keep hp.keep (H2.o.1.ne H2.o.2.2 zY);have f4:w3.cell? ⟨w.heap.size,4,none⟩=some (.bool gk):=r3.cell 4;have f5:w3.cell? ⟨w.heap.size,5,none⟩=some (.slice ak nk ck):=r3.cell 5;have hfr:∀b,v2.ownBlock=some b→w.heap.size≤b:=(fun b hb=>(H2.o.1.lt b hb).1);have k3:aA Nil w w3:=H2.o.2.1.newer hp.keep hfr;have H3:=jJ (aI3 hp.own k3 r3);clear hp r3 hfr k3))
 go_upto_region 8 with (go_at_call 179;go_loud (refine (EK (B:=w.heap.size) H3.o.1 H3.o.2.1.size (HA.o.r4.1.move H3.o.2.1 (fun _ _ h=>h.elim) fun _ _ h=>h) wN).mono ?_;rintro e w4 ⟨v4,rfl,hp⟩;have r4:=H3.o.2.2.keep hp.keep (H3.o.1.ne H3.o.2.2 zY);have g3:w4.cell? ⟨w.heap.size,3,none⟩=some (.slice ap np cp):=r4.cell 3;have k4:aA Nil w w4:=H3.o.2.1.newer hp.keep (fun b hb=>(H3.o.1.lt b hb).1);have H4:=jJ (aI3 hp.own k4 r4);clear hp r4 k4))
 clear e1 e2 f4 f5 d0;obtain ⟨t1,ht1⟩:∃t,t=t0++eD d++eD z:=⟨_,rfl⟩;have h4:=H4.o;rw [←ht1] at h4;have hl1:t1.length≤28+32*eP d.natAbs+32*eP z.natAbs:=wS;have hb1:Byt t1:=wY;have hne1:t1≠[]:=tT;have hkt:bB ⟨2,d,⟨l,z⟩,v,q⟩=t1++cD l:=tG;have hlen:l.length=np:=eU.len HA.o.r5.1;have hle:=(HA.o.r5.1.ex.elim fun f h=>h.1.le);have hcap:=(HA.o.r5.1.ex.elim fun f h=>h.1.cap);have hI:∀p∈l,-9223372036854775808≤p.1∧p.1≤9223372036854775807:=fun p hp=>yK;have HT1:=jJ (aI6 hl1 hb1 hne1 hkt hlen hI);have HX:=jJ (aI h4.1 h4.2.1);clear h4 hl1 hb1 hne1 hkt ht1 hlen hI H4;go_wp2_with fail
 go_loopw [4,33] (fun u i wr=>∃n:Nat,i=.int .i64 n∧n≤np∧fO wr w.heap.size 5 u (t1++cD (l.take n))∧aA Nil w wr) (fun _ i _=>np-(intOf i).toNat)
 case atStart=>exact xF
 case round=>exact zT
theorem bCY {nd cd np cp nk ck nq cq:Nat} {q:List Int} (hT:Tab B w) (h:jL Nil w gd ad nd cd ap np cp gk ak nk ck aq nq cq ⟨3,d,⟨l,z⟩,v,q⟩) (hroom:32*eP d.natAbs+32*eP z.natAbs+jE l≤70368744177000) :
  Calls prog 127 #[.agg #[.int .i64 3,.bool gd,.slice ad nd cd,.slice ap np cp,.bool gk,.slice ak nk ck,.int .i64 v,.slice aq nq cq]] w fun e w'=>e=.returned (.string (strOf (bB ⟨3,d,⟨l,z⟩,v,q⟩)))∧aA Nil w w':=by
 have hkt:bB ⟨3,d,⟨l,z⟩,v,q⟩=bF 3++[32]++(eD d++eD z++cD l):=uJ;have hkI:I64 3:=vS;have hzd:ZN (From w.heap.size) w gd ad nd cd d:=h.d.move (aA.refl Nil w) (fun _ _ h=>h.elim) fun b hb hf=>yE;have hzk:ZN (From w.heap.size) w gk ak nk ck z:=h.t.2.move (aA.refl Nil w) (fun _ _ h=>h.elim) fun b hb hf=>yE;have hp:cV (From w.heap.size) (From w.heap.size) w ap np cp l:=h.t.1.move (M1':=From w.heap.size) (M2':=From w.heap.size) (aA.refl Nil w) (fun _ _ h=>h.elim) (fun b hb hf=>yE) (fun _ _ h=>h.elim) fun b hb hf=>yE;have HA:=jJ (aI7 hT hzd hkI hkt hzk hp hroom);clear hT h hkI hkt hzd hzk hp hroom;go_enter func127,ntmps127
 go_upto_region 1 with (fail)
 obtain ⟨w0,e_2,k0,r0⟩:=bx1 w 59 [.int .i64 3,.bool gd,.slice ad nd cd,.slice ap np cp,.bool gk,.slice ak nk ck,.int .i64 v,.slice aq nq cq];rw [e_2];clear e_2;have H0:=jJ (aI k0 r0);have c0:w0.cell? ⟨w.heap.size,0,none⟩=some (.int .i64 3):=r0.cell 0;have hs0:(strOf (bF 3)).size≤21:=yC;clear k0 r0;go_upto_region 2 with (go_at_call 178;refine (BJ HA.o.2.2.1 (HA.o.1.eO H0.o.1)).mono ?_;rintro e w1 ⟨rfl,hk1⟩;have r1:=H0.o.2.keep hk1 id;have d0:w1.cell? ⟨w.heap.size,0,none⟩=some (.int .i64 3):=r1.cell 0;have H1:=jJ (aI hk1 r1);clear hk1 r1)
 rw [show strOf (bF 3)++(⟨#[32]⟩:ByteArray)=strOf (bF 3++[32]) from bP _ [32]];obtain ⟨t0,ht0⟩:∃t,t=bF 3++[32]:=⟨_,rfl⟩;rw [←ht0];have hs1:t0.length≤22:=tU;have hb0:Byt t0:=wQ;have hne0:t0≠[]:=by rw [ht0];simp
 have hcv:=run_bytes_of_string (P:=prog) w1 9 211 5 (strOf t0) underlying9 underlying211 underlying5;have hw1:w.heap.size≤w1.heap.size:=(H0.o.1.trans H1.o.1).size;have hown:=VO (w:=w1) (B:=w.heap.size) (E:=5) hb0 hw1 zC;have hk2:aA Nil w1 (w1.drew.alloc (.cells (bytesRow (strOf t0) (grownCap w1 (strOf t0).size 0 5)) 5 ((bytesRow (strOf t0) (grownCap w1 (strOf t0).size 0 5)).size,(bytesRow (strOf t0) (grownCap w1 (strOf t0).size 0 5)).size+1))):=((aA.refl Nil w1).drew).alloc _;generalize w1.drew.alloc (.cells (bytesRow (strOf t0) (grownCap w1 (strOf t0).size 0 5)) 5 ((bytesRow (strOf t0) (grownCap w1 (strOf t0).size 0 5)).size,(bytesRow (strOf t0) (grownCap w1 (strOf t0).size 0 5)).size+1))=w2 at *
 generalize Value.slice (some ⟨w1.heap.size,0,none⟩) (strOf t0).size (grownCap w1 (strOf t0).size 0 5)=v2 at *
 have r2:=H1.o.2.keep hk2 id;have e1:w2.cell? ⟨w.heap.size,1,none⟩=some (.bool gd):=r2.cell 1;have e2:w2.cell? ⟨w.heap.size,2,none⟩=some (.slice ad nd cd):=r2.cell 2;have kw2:=(H0.o.1.trans H1.o.1).trans hk2;have HT0:=jJ (aI4 ht0 hs1 hb0 hne0);have H2:=jJ (aI3 hown kw2 r2);have HC:=jJ hcv;clear ht0 hs0 c0 hs1 hb0 hne0 hcv hown hk2 r2 kw2;go_upto_region 6 with fail
 go_wp2_with fail
 rw [HC.o];have HN:=jJ (cZ1 (show w.heap.size<w.heap.size+1 by omega) (show w.heap.size+1≤w2.heap.size by have:=H2.o.2.2.lt;omega));go_upto_region 7 with (go_at_call 179;go_loud (refine (EK (B:=w.heap.size) H2.o.1 H2.o.2.1.size (HA.o.2.1.move H2.o.2.1 (fun _ _ h=>h.elim) fun _ _ h=>h) uQ).mono ?_;rintro e w3 ⟨v3,rfl,hp⟩;have r3:=H2.o.2.2.keep hp.keep (H2.o.1.ne H2.o.2.2 zY);have f4:w3.cell? ⟨w.heap.size,4,none⟩=some (.bool gk):=r3.cell 4;have f5:w3.cell? ⟨w.heap.size,5,none⟩=some (.slice ak nk ck):=r3.cell 5;have hfr:∀b,v2.ownBlock=some b→w.heap.size≤b:=(fun b hb=>(H2.o.1.lt b hb).1);have k3:aA Nil w w3:=H2.o.2.1.newer hp.keep hfr;have H3:=jJ (aI3 hp.own k3 r3);clear hp r3 hfr k3))
 go_upto_region 8 with (go_at_call 179;go_loud (refine (EK (B:=w.heap.size) H3.o.1 H3.o.2.1.size (HA.o.r4.1.move H3.o.2.1 (fun _ _ h=>h.elim) fun _ _ h=>h) wN).mono ?_;rintro e w4 ⟨v4,rfl,hp⟩;have r4:=H3.o.2.2.keep hp.keep (H3.o.1.ne H3.o.2.2 zY);have g3:w4.cell? ⟨w.heap.size,3,none⟩=some (.slice ap np cp):=r4.cell 3;have k4:aA Nil w w4:=H3.o.2.1.newer hp.keep (fun b hb=>(H3.o.1.lt b hb).1);have H4:=jJ (aI3 hp.own k4 r4);clear hp r4 k4))
 clear e1 e2 f4 f5 d0;obtain ⟨t1,ht1⟩:∃t,t=t0++eD d++eD z:=⟨_,rfl⟩;have h4:=H4.o;rw [←ht1] at h4;have hl1:t1.length≤28+32*eP d.natAbs+32*eP z.natAbs:=wS;have hb1:Byt t1:=wY;have hne1:t1≠[]:=tT;have hkt:bB ⟨3,d,⟨l,z⟩,v,q⟩=t1++cD l:=tG;have hlen:l.length=np:=eU.len HA.o.r5.1;have hle:=(HA.o.r5.1.ex.elim fun f h=>h.1.le);have hcap:=(HA.o.r5.1.ex.elim fun f h=>h.1.cap);have hI:∀p∈l,-9223372036854775808≤p.1∧p.1≤9223372036854775807:=fun p hp=>yK;have HT1:=jJ (aI6 hl1 hb1 hne1 hkt hlen hI);have HX:=jJ (aI h4.1 h4.2.1);clear h4 hl1 hb1 hne1 hkt ht1 hlen hI H4;go_wp2_with fail
 go_loopw [4,33] (fun u i wr=>∃n:Nat,i=.int .i64 n∧n≤np∧fO wr w.heap.size 5 u (t1++cD (l.take n))∧aA Nil w wr) (fun _ i _=>np-(intOf i).toNat)
 case atStart=>exact xF
 case round=>exact zT
theorem bDC {nd cd np cp nk ck nq cq:Nat} {q:List Int} (hT:Tab B w) (h:jL Nil w gd ad nd cd ap np cp gk ak nk ck aq nq cq ⟨4,d,⟨l,z⟩,v,q⟩) (hroom:32*eP d.natAbs+32*eP z.natAbs+jE l≤70368744177000) :
  Calls prog 127 #[.agg #[.int .i64 4,.bool gd,.slice ad nd cd,.slice ap np cp,.bool gk,.slice ak nk ck,.int .i64 v,.slice aq nq cq]] w fun e w'=>e=.returned (.string (strOf (bB ⟨4,d,⟨l,z⟩,v,q⟩)))∧aA Nil w w':=by
 have hkt:bB ⟨4,d,⟨l,z⟩,v,q⟩=bF 4++[32]++(eD d++eD z++cD l):=uJ;have hkI:I64 4:=vS;have hzd:ZN (From w.heap.size) w gd ad nd cd d:=h.d.move (aA.refl Nil w) (fun _ _ h=>h.elim) fun b hb hf=>yE;have hzk:ZN (From w.heap.size) w gk ak nk ck z:=h.t.2.move (aA.refl Nil w) (fun _ _ h=>h.elim) fun b hb hf=>yE;have hp:cV (From w.heap.size) (From w.heap.size) w ap np cp l:=h.t.1.move (M1':=From w.heap.size) (M2':=From w.heap.size) (aA.refl Nil w) (fun _ _ h=>h.elim) (fun b hb hf=>yE) (fun _ _ h=>h.elim) fun b hb hf=>yE;have HA:=jJ (aI7 hT hzd hkI hkt hzk hp hroom);clear hT h hkI hkt hzd hzk hp hroom;go_enter func127,ntmps127
 go_upto_region 1 with (fail)
 obtain ⟨w0,e_3,k0,r0⟩:=bx1 w 59 [.int .i64 4,.bool gd,.slice ad nd cd,.slice ap np cp,.bool gk,.slice ak nk ck,.int .i64 v,.slice aq nq cq];rw [e_3];clear e_3;have H0:=jJ (aI k0 r0);have c0:w0.cell? ⟨w.heap.size,0,none⟩=some (.int .i64 4):=r0.cell 0;have hs0:(strOf (bF 4)).size≤21:=yC;clear k0 r0;go_upto_region 2 with (go_at_call 178;refine (BJ HA.o.2.2.1 (HA.o.1.eO H0.o.1)).mono ?_;rintro e w1 ⟨rfl,hk1⟩;have r1:=H0.o.2.keep hk1 id;have d0:w1.cell? ⟨w.heap.size,0,none⟩=some (.int .i64 4):=r1.cell 0;have H1:=jJ (aI hk1 r1);clear hk1 r1)
 rw [show strOf (bF 4)++(⟨#[32]⟩:ByteArray)=strOf (bF 4++[32]) from bP _ [32]];obtain ⟨t0,ht0⟩:∃t,t=bF 4++[32]:=⟨_,rfl⟩;rw [←ht0];have hs1:t0.length≤22:=tU;have hb0:Byt t0:=wQ;have hne0:t0≠[]:=by rw [ht0];simp
 have hcv:=run_bytes_of_string (P:=prog) w1 9 211 5 (strOf t0) underlying9 underlying211 underlying5;have hw1:w.heap.size≤w1.heap.size:=(H0.o.1.trans H1.o.1).size;have hown:=VO (w:=w1) (B:=w.heap.size) (E:=5) hb0 hw1 zC;have hk2:aA Nil w1 (w1.drew.alloc (.cells (bytesRow (strOf t0) (grownCap w1 (strOf t0).size 0 5)) 5 ((bytesRow (strOf t0) (grownCap w1 (strOf t0).size 0 5)).size,(bytesRow (strOf t0) (grownCap w1 (strOf t0).size 0 5)).size+1))):=((aA.refl Nil w1).drew).alloc _;generalize w1.drew.alloc (.cells (bytesRow (strOf t0) (grownCap w1 (strOf t0).size 0 5)) 5 ((bytesRow (strOf t0) (grownCap w1 (strOf t0).size 0 5)).size,(bytesRow (strOf t0) (grownCap w1 (strOf t0).size 0 5)).size+1))=w2 at *
 generalize Value.slice (some ⟨w1.heap.size,0,none⟩) (strOf t0).size (grownCap w1 (strOf t0).size 0 5)=v2 at *
 have r2:=H1.o.2.keep hk2 id;have e1:w2.cell? ⟨w.heap.size,1,none⟩=some (.bool gd):=r2.cell 1;have e2:w2.cell? ⟨w.heap.size,2,none⟩=some (.slice ad nd cd):=r2.cell 2;have kw2:=(H0.o.1.trans H1.o.1).trans hk2;have HT0:=jJ (aI4 ht0 hs1 hb0 hne0);have H2:=jJ (aI3 hown kw2 r2);have HC:=jJ hcv;clear ht0 hs0 c0 hs1 hb0 hne0 hcv hown hk2 r2 kw2;go_upto_region 6 with fail
 go_wp2_with fail
 rw [HC.o];have HN:=jJ (cZ1 (show w.heap.size<w.heap.size+1 by omega) (show w.heap.size+1≤w2.heap.size by have:=H2.o.2.2.lt;omega));go_upto_region 7 with (go_at_call 179;go_loud (refine (EK (B:=w.heap.size) H2.o.1 H2.o.2.1.size (HA.o.2.1.move H2.o.2.1 (fun _ _ h=>h.elim) fun _ _ h=>h) uQ).mono ?_;rintro e w3 ⟨v3,rfl,hp⟩;have r3:=H2.o.2.2.keep hp.keep (H2.o.1.ne H2.o.2.2 zY);have f4:w3.cell? ⟨w.heap.size,4,none⟩=some (.bool gk):=r3.cell 4;have f5:w3.cell? ⟨w.heap.size,5,none⟩=some (.slice ak nk ck):=r3.cell 5;have hfr:∀b,v2.ownBlock=some b→w.heap.size≤b:=(fun b hb=>(H2.o.1.lt b hb).1);have k3:aA Nil w w3:=H2.o.2.1.newer hp.keep hfr;have H3:=jJ (aI3 hp.own k3 r3);clear hp r3 hfr k3))
 go_upto_region 8 with (go_at_call 179;go_loud (refine (EK (B:=w.heap.size) H3.o.1 H3.o.2.1.size (HA.o.r4.1.move H3.o.2.1 (fun _ _ h=>h.elim) fun _ _ h=>h) wN).mono ?_;rintro e w4 ⟨v4,rfl,hp⟩;have r4:=H3.o.2.2.keep hp.keep (H3.o.1.ne H3.o.2.2 zY);have g3:w4.cell? ⟨w.heap.size,3,none⟩=some (.slice ap np cp):=r4.cell 3;have k4:aA Nil w w4:=H3.o.2.1.newer hp.keep (fun b hb=>(H3.o.1.lt b hb).1);have H4:=jJ (aI3 hp.own k4 r4);clear hp r4 k4))
 clear e1 e2 f4 f5 d0;obtain ⟨t1,ht1⟩:∃t,t=t0++eD d++eD z:=⟨_,rfl⟩;have h4:=H4.o;rw [←ht1] at h4;have hl1:t1.length≤28+32*eP d.natAbs+32*eP z.natAbs:=wS;have hb1:Byt t1:=wY;have hne1:t1≠[]:=tT;have hkt:bB ⟨4,d,⟨l,z⟩,v,q⟩=t1++cD l:=tG;have hlen:l.length=np:=eU.len HA.o.r5.1;have hle:=(HA.o.r5.1.ex.elim fun f h=>h.1.le);have hcap:=(HA.o.r5.1.ex.elim fun f h=>h.1.cap);have hI:∀p∈l,-9223372036854775808≤p.1∧p.1≤9223372036854775807:=fun p hp=>yK;have HT1:=jJ (aI6 hl1 hb1 hne1 hkt hlen hI);have HX:=jJ (aI h4.1 h4.2.1);clear h4 hl1 hb1 hne1 hkt ht1 hlen hI H4;go_wp2_with fail
 go_loopw [4,33] (fun u i wr=>∃n:Nat,i=.int .i64 n∧n≤np∧fO wr w.heap.size 5 u (t1++cD (l.take n))∧aA Nil w wr) (fun _ i _=>np-(intOf i).toNat)
 case atStart=>exact xF
 case round=>exact zT
end
structure FL (N:aS):Prop where
 kind:2≤N.kind∧N.kind≤8
 var:I64 N.var
 kids:∀x∈N.kids,I64 x
 few:N.kids.length≤16777216
 room:32*eP N.d.natAbs+32*eP N.t.k.natAbs+jE N.t.parts≤70368744177000
theorem XG {B:Nat} {w:World} {gd gk:Bool} {ad ap ak aq:Option Addr} {nd cd np cp nk ck nq cq:Nat} {N:aS} (hT:Tab B w) (h:jL Nil w gd ad nd cd ap np cp gk ak nk ck aq nq cq N) (hN:FL N) :
  Calls prog 127 #[.agg #[.int .i64 N.kind,.bool gd,.slice ad nd cd,.slice ap np cp,.bool gk,.slice ak nk ck,.int .i64 N.var,.slice aq nq cq]] w fun e w'=>e=.returned (.string (strOf (bB N)))∧aA Nil w w':=by
 obtain ⟨k,d,⟨l,z⟩,v,q⟩:=N;obtain ⟨⟨h1,h2⟩,hv,hq,hf,hr⟩:=hN;have hn:nq≤16777216:=by have:=eU.len h.kids;simp only at hf this;omega
 simp only at h1 h2 hv hq hr⊢;by_cases k2:k=2
 ·subst k2;exact key2 hT h hr
 by_cases k3:k=3
 ·subst k3;exact bCY hT h hr
 by_cases k4:k=4
 ·subst k4;exact bDC hT h hr
 by_cases k5:k=5
 ·subst k5;exact bDH hT h hv hq hn
 by_cases k6:k=6
 ·subst k6;exact bDD hT h hv hq hn
 by_cases k7:k=7
 ·subst k7;exact bCX hT h hv hq hn
 ·obtain rfl:k=8:=zZ;exact bDA hT h hv hq hn
section
def mV (t:List Nat):Lit:=.string (t.map UInt8.ofNat)
theorem aSP {s t:List Nat} (hs:Byt s) (ht:Byt t) (h:mV s=mV t):s=t:=by
 unfold mV at h;have h1:s.map UInt8.ofNat=t.map UInt8.ofNat:=by injection h
 rw [←NW hs,h1,NW ht]
theorem aJL {P:Program} {kt:TypeId} (hk:P.underlying kt=some .string) {t:List Nat} (ht:t.length≤maxLen):keyOf P kt (.string (strOf t))=some (mV t):=by
 rw [WideMaps.keyOf_string_mk hk (by rw [aT];exact ht)];simp [mV,strOf]
def mO (P:Program) (kt et:TypeId) (w:World) (b n:Nat) (F:List Nat→Option Nat):Prop:=
 ∃D:DataW Unit,w.ownsMap P kt (plainElem P et) b n D∧∀t,Byt t→Maps.has D (mV t)=(F t).isSome∧∀i,F t=some i→D.atKey (mV t) (.lit (.int .i64 0))=.lit (.int .i64 i)
theorem mO.keep {P:Program} {kt et:TypeId} {M:Nat→Prop} {w w':World} {b n:Nat} {F:List Nat→Option Nat} (h:mO P kt et w b n F) (k:aA M w w') (hn:¬M b):mO P kt et w' b n F:=yM
theorem mO.mono {P:Program} {kt et:TypeId} {w:World} {b n n':Nat} {F:List Nat→Option Nat} (h:mO P kt et w b n F) (hn:n≤n'):mO P kt et w b n' F:=by obtain ⟨D,q,r⟩:=h;exact⟨D,q.mono hn,r⟩
section
variable {P:Program} (w:World) {ops:Array Oper} {rest:List Oper} {o:Oper} {a:Act} {Q:Exit→Act→World→Prop}
theorem RN (hg:o.guard=none) (m x:Operand) (t:TypeId) (hop:o.op=Op.lookup t m x true) (kt et:TypeId) (hk:P.underlying kt=some .string) (ht:P.underlying t=some (.map kt et)) (he:P.underlying et=some (.int .i64)) (hz:(zeroValue et).run P w=.ok (.int .i64 0) w)
  (b n:Nat) (F:List Nat→Option Nat) (hm:a.eval m=.map (some b)) (hF:mO P kt et w b n F) (s:List Nat) (hx:a.eval x=.string (strOf s)) (hs:Byt s) (hl:s.length≤maxLen)
  (hK:∀c:Int,(∀i,F s=some i→c=i)→wpList P ops Q rest (a.put o.dst (.tuple #[.int .i64 c,.bool (F s).isSome])) w):wpList P ops Q (o::rest) a w:=by
 obtain ⟨D,q1,q2⟩:=hF;obtain ⟨r1,r2⟩:=q2 s hs;refine wpList_lookup_own_ok_int w hg m x t hop kt et .i64 (string_keyed hk) ht he hz b n D hm q1 _ (mV s) hx (aJL hk hl) ?_;intro c hc _;rw [r1];refine hK c fun i hi=>?_;have h:=hc.symm.trans (r2 i hi);simp only [DataW.lit.injEq,Lit.int.injEq,true_and] at h;exact h
theorem aLK (hg:o.guard=none) (m x v:Operand) (t:TypeId) (hop:o.op=Op.mapUpdate t m x v) (kt et:TypeId) (hk:P.underlying kt=some .string) (ht:P.underlying t=some (.map kt et)) (he:P.underlying et=some (.int .i64))
  (b n:Nat) (F:List Nat→Option Nat) (hm:a.eval m=.map (some b)) (hF:mO P kt et w b n F) (hn:n<maxLen) (s:List Nat) (hx:a.eval x=.string (strOf s)) (hs:Byt s) (hl:s.length≤maxLen) (i:Nat) (hi:i≤9223372036854775807) (hv:a.eval v=.int .i64 (i:Int))
  (hK:∀w',mO P kt et w' b (n+1) (fun t=>if t=s then some i else F t)→aA (One b) w w'→wpList P ops Q rest (a.put o.dst undef) w'):wpList P ops Q (o::rest) a w:=by
 obtain ⟨D,q1,q2⟩:=hF;have hwf:(Lit.int .i64 (i:Int)).wf=true:=WalkArith.wf_i64 zZ;refine wpList_mapUpdate_own w hg m x v t hop kt et (string_keyed hk) ht (plainElem P et) b n D hm q1 hn _ _ (mV s) hx hv (aJL hk hl) (.lit (.int .i64 i)) [] (plainElem_int he hwf) ?_;intro w' r1 r2;have hM:=(q1.tidy (string_keyed hk)).isMap;refine hK w' ⟨_,r1,fun u hu=>?_⟩ (aA.IL r2);by_cases hus:u=s
 ·subst hus;show _=(if u=u then some i else F u).isSome∧∀j,(if u=u then some i else F u)=some j→_
  rw [if_pos rfl];refine ⟨by rw [Maps.has_put_same hM (show WideAt.IsKeyLit (mV u) from trivial)];rfl,fun j hj=>?_⟩;cases hj;exact atKey_put_same hM (show WideAt.IsKeyLit (mV u) from trivial) _ _
 ·show _=(if u=s then some i else F u).isSome∧∀j,(if u=s then some i else F u)=some j→_
  rw [if_neg hus];have hne:mV u≠mV s:=fun e=>hus (aSP hu hs e);rw [Maps.has_put_other hne];refine ⟨(q2 u hu).1,fun j hj=>?_⟩;rw [atKey_put_other hne];exact (q2 u hu).2 j hj
end
end
end Go.Proofs.Q
