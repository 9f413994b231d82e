/- Lists: of numbers, and such that a call builds by append, told of what their elements say. -/
import Derived.Test.YtlldghknenbccaaGreatDoorRRegions
import Derived.Maps.RangeWalk
import Derived.Maps.Ext
set_option linter.unusedSimpArgs false
set_option linter.unusedVariables false
set_option maxHeartbeats 1000000
namespace Go.Proofs.Q
open Go.RowKit Go.Maps Tryz
section
variable {zs:List Int} {a:Option Addr} {i n g:Nat} {c:List Value}
theorem eU.ofRow {α:Type} {M:Nat→Prop} {w:World} {sz:Nat} {R:List Value→α→Prop} {d:α} {E:TypeId} {els:List (List Value)} {xs:List α} (h:aF w g E els.flatten) (hsz:∀c∈els,c.length=sz) (hM:¬M g) (hn:els.length≤9223372036854775807)
  (hx:xs.length=els.length) (hR:∀i,i<els.length→R (els.getD i []) (xs.getD i d)):eU M w sz R d (some ⟨g,0,.none⟩) els.length els.length xs:=by
 refine ⟨hx,fun i=>els.getD i [],⟨bZ2 _,hn,(fun h=>wZ),fun p hp _=>?_⟩,fun i hi=>⟨hsz _ (by simp [List.getD,jZ2 hi]),hR i hi⟩⟩;cases hp;refine ⟨rfl,h.lt,hM,fun i j hi hj=>?_⟩;have:=DI els hsz i j hi hj;simp only [Nat.zero_add];rw [h.cell (i*sz+j),this]
def RZ (M:Nat→Prop) (w:World) (cs:List Value) (z:Int):Prop:=∃g a n c,cs=[.bool g,.slice a n c]∧ZN M w g a n c z
theorem RZ.move {M M' M2:Nat→Prop} {w w':World} {cs:List Value} {z:Int} (h:RZ M w cs z) (k:aA M' w w') (h1:∀b,b<w.heap.size→M' b→M b) (h2:∀b,b<w.heap.size→M2 b→M b):RZ M2 w' cs z:=by
 obtain ⟨g,a,n,c,e,q⟩:=h;exact⟨g,a,n,c,e,q.move k h1 h2⟩
def kT (M:Nat→Prop) (w:World) (a:Option Addr) (n c:Nat) (zs:List Int):Prop:=eU M w 2 (RZ M w) 0 a n c zs
theorem kT.move {M M' M2:Nat→Prop} {w w':World} {a:Option Addr} {n c:Nat} {zs:List Int} (h:kT M w a n c zs) (k:aA M' w w') (h1:∀b,b<w.heap.size→M' b→M b) (h2:∀b,b<w.heap.size→M2 b→M b):kT M2 w' a n c zs:=
 eU.move h k h1 h2 fun _ _ hx=>hx.move k h1 h2
theorem kT.eO {M:Nat→Prop} {w w':World} {c:Nat} (h:kT M w a n c zs) (k:aA Nil w w'):kT M w' a n c zs:=h.move k (fun _ _ h=>h.elim) fun _ _=>id
theorem kT.gK {M:Nat→Prop} {w:World} {c:Nat} (h:kT M w a n c zs):kT Nil w a n c zs:=h.move (aA.refl Nil w) (fun _ _ h=>h.elim) fun _ _ h=>h.elim
def zth (zs:List Int) (i:Nat):Int:=zs.getD i 0
theorem aKB (h:i<zs.length):zth zs i=zs[i]:=by simp [zth,List.getD,jZ2 h]
theorem kT.at {M:Nat→Prop} {w:World} {a:Option Addr} {n c:Nat} {zs:List Int} (h:kT M w a n c zs) {i:Nat} (hi:i<n) :
  ∃b off g a' n' c',a=some ⟨b,off,none⟩∧b<w.heap.size∧¬M b∧w.cell? ⟨b,off+i*2,none⟩=some (.bool g)∧w.cell? ⟨b,off+i*2+1,none⟩=some (.slice a' n' c')∧ZN M w g a' n' c' (zth zs i):=by
 obtain ⟨b,off,cs,rfl,hb,hn,hl,hc,g,a',n',c',rfl,hz⟩:=eU.at h hi;exact⟨b,off,g,a',n',c',rfl,hb,hn,by simpa using hc 0 zZ,by simpa using hc 1 zZ,hz⟩
theorem kT.none {M:Nat→Prop} {w:World}:kT M w none 0 0 []:=eU.nil
section
variable {α:Type}
def Moves (R:(Nat→Prop)→World→List Value→α→Prop):Prop:=∀⦃M M' M2:Nat→Prop⦄ ⦃w w':World⦄ ⦃cs:List Value⦄ ⦃x:α⦄,R M w cs x→aA M' w w'→(∀b,b<w.heap.size→M' b→M b)→(∀b,b<w.heap.size→M2 b→M b)→R M2 w' cs x
structure Grown (R:(Nat→Prop)→World→List Value→α→Prop) (d:α) (E:TypeId) (sz:Nat) (M:Nat→Prop) (w:World) (base:Nat) (v:Value) (els:List (List Value)) (xs:List α):Prop where
 own:aL w base E sz v els
 len:xs.length=els.length
 el:∀i,i<els.length→R (lI M v) w (els.getD i []) (xs.getD i d)
variable {R:(Nat→Prop)→World→List Value→α→Prop} {d:α} {E:TypeId} {sz:Nat} {M:Nat→Prop} {w w':World} {base:Nat} {v v':Value} {els:List (List Value)} {xs:List α}
theorem Grown.nil:Grown R d E sz M w base (.slice none 0 0) [] []:=⟨aL.nil _ _ _ _,rfl,fun i hi=>pG⟩
theorem Grown.eO (hR:Moves R) (h:Grown R d E sz M w base v els xs) (k:aA Nil w w'):Grown R d E sz M w' base v els xs:=
 ⟨h.own.eO k,h.len,fun i hi=>hR (h.el i hi) k (fun _ _ h=>h.elim) fun _ _=>id⟩
theorem Grown.keep (hR:Moves R) (h:Grown R d E sz M w base v els xs) {M':Nat→Prop} (k:aA M' w w') (hv:∀b,v.ownBlock=some b→¬M' b) (hM:∀b,b<w.heap.size→M' b→M b):Grown R d E sz M w' base v els xs:=
 ⟨h.own.keep k hv,h.len,fun i hi=>hR (h.el i hi) k (fun b hb hm=>.inl (hM b hb hm)) fun _ _=>id⟩
theorem EF {β:Type} (l:List β) (x d:β) (h:i<l.length):(l++[x]).getD i d=l.getD i d:=wP
theorem DF {β:Type} (l:List β) (x d:β):(l++[x]).getD l.length d=x:=by simp [List.getD]
theorem Grown.snoc (hR:Moves R) (h:Grown R d E sz M w base v els xs) {x:α} (hc:R (lI M v) w c x) (ho:aL w' base E sz v' (els++[c])) (k:aA (Own v) w w') (hf:DZ w v v'):Grown R d E sz M w' base v' (els++[c]) (xs++[x]):=by
 have h2:∀b,b<w.heap.size→lI M v' b→lI M v b:=fun b hb hm=>by
  rcases hm with hm|hm
  ·exact .inl hm
  ·rcases hf b hm with h'|h'
   ·exact .inr h'
   ·omega
 refine ⟨ho,by simp [h.len],fun i hi=>?_⟩;rcases Nat.lt_or_ge i els.length with hi'|hi'
 ·rw [EF _ _ _ hi',EF _ _ _ (by rw [h.len];exact hi')];exact hR (h.el i hi') k (fun b _ hb=>.inr hb) h2
 ·have:i=els.length:=by simp at hi;omega
  subst this;rw [DF,←h.len,DF];exact hR hc k (fun b _ hb=>.inr hb) h2
theorem Grown.sl (hR:Moves R) (h:Grown R d E sz M w base v els xs) (hM:∀b,M b→b<base):∃a c,v=.slice a els.length c∧eU M w sz (R M w) d a els.length c xs:=
 aL.sl h.own (fun b hb hm=>by have:=(h.own.lt b hb).1;have:=hM b hm;omega) h.len fun i hi=>hR (h.el i hi) (aA.refl Nil w) (fun _ _ h=>h.elim) fun _ _=>.inl
end
theorem RZ.moves:Moves RZ:=fun _ _ _ _ _ _ _ h k h1 h2=>h.move k h1 h2
theorem MB.and {M:Nat→Prop} {w w':World} {base:Nat} {E:TypeId} {sz:Nat} {v:Value} {els:List (List Value)} (h:MB M w') (ho:aL w base E sz v els) (k:w.heap.size≤w'.heap.size):MB (lI M v) w':=fun b hb=>by
 rcases hb with hb|hb
 ·exact h b hb
 ·have:=(ho.lt b hb).2;omega
end
abbrev aM:=List (Int × Int)
structure aV where
 parts:aM
 k:Int
def bD:aM→Int→Int
 | [],_=>0
 | p::l,v=>(if p.1=v then p.2 else 0)+bD l v
theorem SK (a b:aM) (v:Int):bD (a++b) v=bD a v+bD b v:=by
 induction a with
 | nil=>simp [bD]
 | cons p a ih=>simp only [hZ3,bD,ih];omega
theorem aCJ (a:aM) (p:Int × Int) (v:Int):bD (a++[p]) v=bD a v+(if p.1=v then p.2 else 0):=by rw [SK];simp [bD]
theorem aDG {l:aM} {v:Int} (h:∀p∈l,p.1≠v):bD l v=0:=by
 induction l with
 | nil=>rfl
 | cons p l ih=>
  simp only [bD];rw [if_neg (h p zW),ih fun q hq=>h q (lZ1 _ hq)];rfl
structure fF (q:aM):Prop where
 rising:q.Pairwise (fun a b=>a.1<b.1)
 some:∀p∈q,p.2≠0
structure mW (C:Int→Int) (q:aM):Prop where
 rising:q.Pairwise (fun a b=>a.1<b.1)
 mem:∀p,p∈q↔p.2=C p.1∧p.2≠0
theorem mW.fZ {C:Int→Int} {q:aM} (h:mW C q):fF q:=⟨h.rising,fun p hp=>((h.mem p).1 hp).2⟩
theorem ZL:∀{a b:aM},a.Pairwise (fun a b=>a.1<b.1)→b.Pairwise (fun a b=>a.1<b.1)→(∀p,p∈a↔p∈b)→a=b
 | [],[],_,_,_=>rfl
 | [],y::b,_,_,h=>by have:=(h y).2 zW;simp at this
 | x::a,[],_,_,h=>by have:=(h x).1 zW;simp at this
 | x::a,y::b,ha,hb,h=>by
  have ha':=List.pairwise_cons.1 ha;have hb':=List.pairwise_cons.1 hb;have hxy:x=y:=by
   rcases mZ1.1 ((h x).1 zW) with h1|h1
   ·exact h1
   ·rcases mZ1.1 ((h y).2 zW) with h2|h2
    ·exact h2.symm
    ·have:=ha'.1 y h2;have:=hb'.1 x h1;omega
  subst hxy;congr 1;refine ZL ha'.2 hb'.2 (fun z=>?_);constructor
  ·intro hz;rcases mZ1.1 ((h z).1 (lZ1 _ hz)) with rfl|h1
   ·have:=ha'.1 z hz;omega
   ·exact h1
  ·intro hz;rcases mZ1.1 ((h z).2 (lZ1 _ hz)) with rfl|h1
   ·have:=hb'.1 z hz;omega
   ·exact h1
theorem mW.unique {C:Int→Int} {a b:aM} (h:mW C a) (h2:mW C b):a=b:=ZL h.rising h2.rising fun p=>(h.mem p).trans (h2.mem p).symm
theorem fF.JD {q:aM} (h:q.Pairwise (fun a b=>a.1<b.1)):∀p∈q,bD q p.1=p.2:=by
 induction q with
 | nil=>intro p hp;cases hp
 | cons x q ih=>
  have h':=List.pairwise_cons.1 h;intro p hp;rcases mZ1.1 hp with rfl|hp
  ·simp only [bD,if_true];rw [aDG fun y hy=>by have:=h'.1 y hy;omega];omega
  ·simp only [bD];rw [if_neg (by have:=h'.1 p hp;omega),ih h'.2 p hp];omega
theorem CO {l:aM} {v:Int} (h:bD l v≠0):∃p∈l,p.1=v:=by
 apply Classical.byContradiction;intro hn;exact h (aDG fun p hp e=>hn ⟨p,hp,e⟩)
theorem fF.form {q:aM} (h:fF q):mW (bD q) q:=by
 refine ⟨h.rising,fun p=>⟨fun hp=>⟨(fF.JD h.rising p hp).symm,h.some p hp⟩,fun ⟨h1,h2⟩=>?_⟩⟩;rw [h1] at h2;obtain ⟨x,hx,e⟩:=CO h2;have:=fF.JD h.rising x hx;rw [e,←h1] at this;have:p=x:=Prod.ext e.symm this;rw [this];exact hx
def dR (l:aM):aM:=((l.map (·.1)).foldr ins []).filterMap fun v=>if bD l v=0 then none else some (v,bD l v)
theorem YR {C:Int→Int}:∀{vs:List Int},vs.Pairwise (·<·)→(vs.filterMap fun v=>if C v=0 then none else some (v,C v)).Pairwise (fun a b=>a.1<b.1)
 | [],_=>zW
 | v::vs,h=>by
  have h':=List.pairwise_cons.1 h;have ih:=YR (C:=C) h'.2;simp only [List.filterMap_cons];split
  ·exact ih
  ·rename_i x hx;split at hx
   ·cases hx
   ·cases hx
    refine List.pairwise_cons.2 ⟨fun p hp=>?_,ih⟩;obtain ⟨y,hy,hp⟩:=List.mem_filterMap.1 hp;split at hp
    ·exact xC
    ·cases hp;exact h'.1 y hy
theorem NJ:∀(l:List Int),(l.foldr ins []).Pairwise (·<·)∧∀x,x∈l.foldr ins []↔x∈l
 | []=>⟨List.Pairwise.nil,fun x=>zW⟩
 | y::l=>by
  obtain ⟨h1,h2⟩:=NJ l;refine ⟨aBY h1,fun x=>?_⟩;rw [List.foldr_cons,XC,h2,mZ1]
theorem CF (l:aM):mW (bD l) (dR l):=by
 obtain ⟨h1,h2⟩:=NJ (l.map (·.1));refine ⟨YR h1,fun p=>?_⟩;unfold dR;rw [List.mem_filterMap];constructor
 ·rintro ⟨v,_,hv⟩;split at hv
  ·cases hv
  ·cases hv;rename_i h;exact⟨rfl,h⟩
 ·rintro ⟨e,hn⟩;refine ⟨p.1,?_,?_⟩
  ·rw [h2];obtain ⟨x,hx,ex⟩:=CO (by rw [←e];exact hn);exact iZ2.2 ⟨x,hx,ex⟩
  ·rw [if_neg (by rw [←e];exact hn),←e]
theorem MQ {l:aM} (h:fF l):dR l=l:=(CF l).unique h.form
theorem mW.eq {l q:aM} (h:mW (bD l) q):q=dR l:=h.unique (CF l)
def bC (T:aV):aV:=⟨dR T.parts,T.k⟩
def mulL (x:Int) (l:aM):aM:=l.map fun p=>(p.1,x*p.2)
theorem OD (x:Int) (l:aM) (v:Int):bD (mulL x l) v=x*bD l v:=by
 induction l with
 | nil=>simp [mulL,bD]
 | cons p l ih=>
  simp only [mulL,dZ2,bD] at ih⊢;rw [ih,Int.mul_add];split<;>simp
theorem VW {X:Nat}:∀(l:aM),(∀p∈l,p.2.natAbs≤X)→∀v,(bD l v).natAbs≤l.length*X
 | [],_,v=>by simp [bD]
 | p::l,h,v=>by
  have h1:=VW l (fun q hq=>h q (lZ1 _ hq)) v;have h2:=h p zW;simp only [bD,gZ1,Nat.add_mul,Nat.one_mul];split<;>omega
section
variable {a:Option Addr} {M' M:Nat→Prop} {w' w:World} {n c i:Nat}
def iM (M:Nat→Prop) (w:World) (cs:List Value) (p:Int × Int):Prop:=∃g a n c,cs=[.int .i64 p.1,.bool g,.slice a n c]∧ZAt M w g a n c p.2∧n≤1073741824∧-9223372036854775808≤p.1∧p.1≤9223372036854775807
theorem iM.moves:Moves iM:=fun _ _ _ _ _ _ _ h k h1 h2=>by
 obtain ⟨g,a,n,c,e,q,r⟩:=h;exact⟨g,a,n,c,e,q.move k h1 h2,r⟩
def dZ (M:Nat→Prop) (w:World) (cs:List Value) (p:Int × Int):Prop:=∃g a n c,cs=[.int .i64 p.1,.bool g,.slice a n c]∧ZN M w g a n c p.2∧-9223372036854775808≤p.1∧p.1≤9223372036854775807
theorem dZ.moves:Moves dZ:=fun _ _ _ _ _ _ _ h k h1 h2=>by
 obtain ⟨g,a,n,c,e,q,r⟩:=h;exact⟨g,a,n,c,e,q.move k h1 h2,r⟩
def bI (M' M:Nat→Prop) (w:World) (a:Option Addr) (n c:Nat) (l:aM):Prop:=eU M' w 3 (iM M w) (0,0) a n c l
def cV (M' M:Nat→Prop) (w:World) (a:Option Addr) (n c:Nat) (l:aM):Prop:=eU M' w 3 (dZ M w) (0,0) a n c l
theorem bI.eO {l:aM} (h:bI M' M w a n c l) (k:aA Nil w w'):bI M' M w' a n c l:=eU.move h k (fun _ _ h=>h.elim) (fun _ _=>id) fun _ _ hx=>iM.moves hx k (fun _ _ h=>h.elim) fun _ _=>id
theorem cV.eO {l:aM} (h:cV M' M w a n c l) (k:aA Nil w w'):cV M' M w' a n c l:=eU.move h k (fun _ _ h=>h.elim) (fun _ _=>id) fun _ _ hx=>dZ.moves hx k (fun _ _ h=>h.elim) fun _ _=>id
theorem cV.move {M1 M2 M1' M2' M:Nat→Prop} {w w':World} {a:Option Addr} {n c:Nat} {l:aM} (h:cV M1 M2 w a n c l) (k:aA M w w') (h1:∀b,b<w.heap.size→M b→M1 b) (h2:∀b,b<w.heap.size→M1' b→M1 b) (h3:∀b,b<w.heap.size→M b→M2 b) (h4:∀b,b<w.heap.size→M2' b→M2 b):cV M1' M2' w' a n c l:=eU.move h k h1 h2 fun _ _ hx=>dZ.moves hx k h3 h4
def pth (l:aM) (i:Nat):Int × Int:=l.getD i (0,0)
theorem iR {l:aM} (h:i<l.length):pth l i=l[i]:=by simp [pth,List.getD,jZ2 h]
theorem bI.at {M' M:Nat→Prop} {w:World} {a:Option Addr} {n c:Nat} {l:aM} (h:bI M' M w a n c l) {i:Nat} (hi:i<n) :
  ∃b off g a' n' c',a=some ⟨b,off,none⟩∧b<w.heap.size∧¬M' b∧w.cell? ⟨b,off+i*3,none⟩=some (.int .i64 (pth l i).1)∧w.cell? ⟨b,off+i*3+1,none⟩=some (.bool g)∧w.cell? ⟨b,off+i*3+2,none⟩=some (.slice a' n' c')∧ZAt M w g a' n' c' (pth l i).2∧n'≤1073741824∧-9223372036854775808≤(pth l i).1∧(pth l i).1≤9223372036854775807:=by
 obtain ⟨b,off,cs,rfl,hb,hn,hl,hc,g,a',n',c',rfl,hz⟩:=eU.at h hi;exact⟨b,off,g,a',n',c',rfl,hb,hn,hc 0 zZ,hc 1 zZ,hc 2 zZ,hz⟩
theorem cV.at {M' M:Nat→Prop} {w:World} {a:Option Addr} {n c:Nat} {l:aM} (h:cV M' M w a n c l) {i:Nat} (hi:i<n) :
  ∃b off g a' n' c',a=some ⟨b,off,none⟩∧b<w.heap.size∧¬M' b∧w.cell? ⟨b,off+i*3,none⟩=some (.int .i64 (pth l i).1)∧w.cell? ⟨b,off+i*3+1,none⟩=some (.bool g)∧w.cell? ⟨b,off+i*3+2,none⟩=some (.slice a' n' c')∧ZN M w g a' n' c' (pth l i).2∧-9223372036854775808≤(pth l i).1∧(pth l i).1≤9223372036854775807:=by
 obtain ⟨b,off,cs,rfl,hb,hn,hl,hc,g,a',n',c',rfl,hz⟩:=eU.at h hi;exact⟨b,off,g,a',n',c',rfl,hb,hn,hc 0 zZ,hc 1 zZ,hc 2 zZ,hz⟩
def FI (g:Bool) (l:List Nat):Bool:=if l.length=0 then !g else decide (lim l (l.length-1)≠0)
end
theorem GL {g:Bool} {a:Option Addr} {n c:Nat} {l:List Nat} {w:World} (h:aU Nil w a n c l) :
  Calls prog 174 #[.agg #[.bool g,.slice a n c]] w fun e w'=>e=.returned (.bool (FI g l))∧aA Nil w w':=by
 have hcap:=h.sl.cap;have hle:=h.sl.le;have hln:=h.len;by_cases h0:n=0
 ·subst h0;have e:FI g l=!g:=by unfold FI;rw [if_pos hln]
  rw [e];clear h hln;go_enter func174,ntmps174
  go_wp2_with fail
  go_ret
  exact⟨rfl,kOf⟩
 ·obtain ⟨m,rfl⟩:∃m,n=m+1:=⟨n-1,zZ⟩;obtain ⟨b,off,hae,hb,_,hc⟩:=h.cell (k:=m) zZ;subst hae;have hx:=h.jB m;have e:FI g l=decide (lim l m≠0):=by unfold FI;rw [if_neg zZ,hln,Nat.add_sub_cancel]
  rw [e];obtain ⟨N,hN⟩:∃N,N=m+1:=⟨_,rfl⟩;rw [←hN] at hle h0⊢;have i1:IntKind.i64.wrap ((N:Int)-1)=(m:Int):=by rw [show (N:Int)-1=(m:Int) by omega];exact IntWalk.i64_in _ zZ
  have j0:(0:Int)≤(m:Int):=zZ;have j1:(m:Int)<(N:Int):=zZ;have j2:¬(N:Int)=0:=zZ;generalize lim l m=x at *
  clear h hln hN;by_cases hxx:x=0
  ·subst hxx;go_enter func174,ntmps174
   go_wp2_with fail
   go_ret
   exact⟨rfl,kOf⟩
  ·have hx2:¬(x:Int)=0:=zZ;have hx3:((x:Int)==0)=false:=by simpa using hx2
   have hx4:((x:Int) != 0)=true:=by simpa using hx2
   have e2:decide (x≠0)=true:=decide_eq_true hxx;rw [e2];go_enter func174,ntmps174
   go_wp2_with fail
   go_ret
   exact⟨by simp [hx4,go_sem],kOf⟩
section
variable {P:Program} {kt t e:TypeId} {M:Nat→Prop} {w w':World} {C:Int→Int} {y:DataW Value × List MemPlace} {b m:Nat} {v:Int} {D:DataW Value} {a:Option Addr} {g:Bool}
def RH (v:Value):Option (DataW Value × List MemPlace):=
 match v with
 | .agg cs=>(match cs.toList with|[.bool _,.slice _ _ _]=>some (.held v,[])|_=>none)
 | _=>none
theorem aKJ (g:Bool) (a:Option Addr) (n c:Nat):RH (.agg #[.bool g,.slice a n c])=some (.held (.agg #[.bool g,.slice a n c]),[]):=rfl
theorem aJY {v:Value} (h:RH v=some y):∃g a n c,v=.agg #[.bool g,.slice a n c]∧y=(.held v,[]):=by
 unfold RH at h;split at h
 ·rename_i cs;split at h
  ·rename_i g a n c hcs;cases h;obtain rfl:cs=#[.bool g,.slice a n c]:=Array.toList_inj.1 hcs;exact⟨g,a,n,c,rfl,rfl⟩
  ·exact wZ
 ·exact wZ
def zvI:Value:=.agg #[.bool false,.slice none 0 0]
def fI (v:Int):Prop:=-9223372036854775808≤v∧v≤9223372036854775807
theorem SN (h:w.ownsMap P kt RH b m D) (k:aA M w w') (hn:¬M b):w'.ownsMap P kt RH b m D:=vK
theorem aA.IL (h:w.grownBy w' (some b)):aA (One b) w w':=⟨h.os,h.tape,h.output,h.size,fun k hk hn=>h.block k hk fun e=>hn (lZ2 e)⟩
theorem aA.aBX (h:w.grownBy w' none):aA Nil w w':=⟨h.os,h.tape,h.output,h.size,fun k hk _=>h.block k hk zW⟩
def jG (P:Program) (kt:TypeId) (M:Nat→Prop) (w:World) (b m:Nat) (C:Int→Int):Prop:=
 ∃D:DataW Value,w.ownsMap P kt RH b m D∧∀v,fI v→∃g a n c,D.atKey (.int .i64 v) (.held zvI)=.held (.agg #[.bool g,.slice a n c])∧ZN M w g a n c (C v)
theorem jG.move {P:Program} {kt:TypeId} {M M' M2:Nat→Prop} {w w':World} {b m:Nat} {C:Int→Int} (h:jG P kt M w b m C) (k:aA M' w w') (hn:¬M' b) (h1:∀b,b<w.heap.size→M' b→M b) (h2:∀b,b<w.heap.size→M2 b→M b):jG P kt M2 w' b m C:=by
 obtain ⟨D,q1,q2⟩:=h;refine ⟨D,SN q1 k hn,fun v hv=>?_⟩;obtain ⟨g,a,n,c,e,hz⟩:=q2 v hv;exact⟨g,a,n,c,e,hz.move k h1 h2⟩
theorem jG.eO (h:jG P kt M w b m C) (k:aA Nil w w'):jG P kt M w' b m C:=h.move k id (fun _ _ h=>h.elim) fun _ _=>id
theorem nR (M:Nat→Prop) (w:World):ZN M w false none 0 0 0:=⟨rfl,tY⟩
theorem jG.made (M:Nat→Prop) (w:World):jG P kt M (w.alloc (.map #[] 0)) w.heap.size 0 fun _=>0:=
 ⟨.map [],World.ownsMap_made _ _ _ _,fun v _=>⟨false,none,0,0,rfl,nR _ _⟩⟩
theorem CQ (hk:P.underlying kt=some (.int .i64)) (hv:fI v):keyOf P kt (.int .i64 v)=some (.int .i64 v):=keyOf_int_mk hk (WalkArith.wf_i64 hv)
theorem jG.look (h:jG P kt M w b m C) (hk:P.underlying kt=some (.int .i64)) (ht:P.underlying t=some (.map kt e)) (hz:∀w,(zeroValue e).run P w=.ok zvI w) (hv:fI v) :
  ∃g a n c,ZN M w g a n c (C v)∧∀w',aA Nil w w'→(Instr.lookup t (.map (some b)) (.int .i64 v) false).run P w'=.ok (.agg #[.bool g,.slice a n c]) w':=by
 obtain ⟨D,q1,q2⟩:=h;obtain ⟨g,a,n,c,e1,hzn⟩:=q2 v hv;refine ⟨g,a,n,c,hzn,fun w' k=>?_⟩;obtain ⟨v',ps,hrun,hR⟩:=(SN q1 k id).lookup (int_keyed hk) ht (hz w') (zd:=.held zvI) (zp:=[]) rfl (CQ hk hv);obtain ⟨_,_,_,_,_,e2⟩:=aJY hR;rw [e1] at e2;simp only [Prod.mk.injEq,DataW.held.injEq] at e2;rw [hrun,←e2.1]
theorem jG.put {z:Int} {n c:Nat} (h:jG P kt M w b m C) (hk:P.underlying kt=some (.int .i64)) (ht:P.underlying t=some (.map kt e)) (hv:fI v) (hm:m<9223372036854775807) (hM:M b) (hz:ZN M w g a n c z) :
  ∃w',(Instr.mapUpdate t (.map (some b)) (.int .i64 v) (.agg #[.bool g,.slice a n c])).run P w=.ok () w'∧jG P kt M w' b (m+1) (fun u=>if v=u then z else C u)∧aA (One b) w w':=by
 obtain ⟨D,q1,q2⟩:=h;obtain ⟨w',hrun,hown,hgr⟩:=q1.update (int_keyed hk) ht zC (CQ hk hv) (aKJ g a n c);have hkp:=aA.IL hgr;refine ⟨w',hrun,⟨_,hown,fun u hu=>?_⟩,hkp⟩;have hsub:∀b',b'<w.heap.size→One b b'→M b':=fun b' _ e=>by rw [show b'=b from e];exact hM
 by_cases huv:v=u
 ·subst huv;refine ⟨g,a,n,c,?_,by show ZN M w' g a n c (if v=v then z else C v);rw [if_pos rfl];exact hz.move hkp hsub fun _ _=>id⟩;exact atKey_put_same ((q1.tidy (int_keyed hk)).isMap) (show WideAt.IsKeyLit (Lit.int .i64 v) from trivial) _ _
 ·obtain ⟨g',a',n',c',e1,hz'⟩:=q2 u hu;refine ⟨g',a',n',c',?_,by show ZN M w' g' a' n' c' (if v=u then z else C u);rw [if_neg huv];exact hz'.move hkp hsub fun _ _=>id⟩;rw [atKey_put_other (by intro e;cases e;exact huv rfl)];exact e1
end
section
variable {E:TypeId} {sz i g j b:Nat} {rest cs x:List Value} {Q:Exit→Act→World→Prop} {K:Act→World→Prop} {v:Value} {a:Option Addr} {o:Oper}
theorem aL.form {w:World} {base:Nat} {els:List (List Value)} (h:aL w base E sz v els) :
  (v=.slice none 0 0∧els=[])∨∃g cap rest,v=.slice (some ⟨g,0,none⟩) els.length cap∧aF w g E (els.flatten++rest)∧els.length≤cap∧cap≤9223372036854775807∧base≤g∧v.ownBlock=some g:=by
 rcases h.row.2 with ⟨h1,h2⟩|⟨g,cap,cur,rfl,hb,hg,hnc,hcm,hcs,htake⟩
 ·exact .inl ⟨h1,fZ1 h2⟩
 ·refine .inr ⟨g,cap,cur.toList.drop els.flatten.length,rfl,?_,hnc,vZ,hb,rfl⟩;unfold aF;rw [hg];congr 2;rw [←bL els h.sz] at htake;have:els.flatten++cur.toList.drop els.flatten.length=cur.toList:=tV;rw [this]
theorem aL.isSlice {w:World} {base:Nat} {els:List (List Value)} (h:aL w base E sz v els):∃a c,v=.slice a els.length c:=by
 rcases h.form with ⟨h1,h2⟩|⟨g,cap,rest,h1,_⟩
 ·subst h2;exact⟨none,0,h1⟩
 ·exact⟨_,_,h1⟩
theorem eU.els {α:Type} {M:Nat→Prop} {w:World} {sz:Nat} {R:List Value→α→Prop} {d:α} {a:Option Addr} {n c:Nat} {xs:List α} (h:eU M w sz R d a n c xs) :
  ∃els:List (List Value),els.length=n∧(∀c∈els,c.length=sz)∧(∀i,i<n→R (els.getD i []) (xs.getD i d))∧∀p,a=some p→∀j u,els.flatten[j]?=some u→w.cell? (p.add j)=some u:=by
 obtain ⟨hl,f,hs,hr⟩:=h;have hsz:∀c∈(List.range n).map f,c.length=sz:=by
  intro c hc;obtain ⟨i,hi,rfl⟩:=iZ2.1 hc;exact (hr i (List.mem_range.1 hi)).1
 refine ⟨(List.range n).map f,zW,hsz,fun i hi=>?_,fun p hp j u hj=>?_⟩
 ·rw [show ((List.range n).map f).getD i []=f i by simp [List.getD,hi]];exact (hr i hi).2
 ·have hlt:=(List.getElem?_eq_some_iff.1 hj).1;rw [bL _ hsz,hZ1,List.length_range] at hlt;have hn:0<n:=Nat.pos_of_ne_zero fun e=>by subst e;simp at hlt
  have hz:0<sz:=Nat.pos_of_ne_zero fun e=>by subst e;simp at hlt
  obtain ⟨h1,h2,h3,h4⟩:=hs.some p hp hn;obtain ⟨b,off,spot⟩:=p;subst h1;have hi:j / sz<n:=Nat.div_lt_of_lt_mul (by rw [Nat.mul_comm];exact hlt);have ht:j % sz<sz:=Nat.mod_lt _ hz;have hg:=DI ((List.range n).map f) hsz (j / sz) (j % sz) uI ht;rw [show j / sz*sz+j % sz=j from Nat.div_add_mod' j sz] at hg;have hc:=h4 (j / sz) (j % sz) hi ht;rw [Addr.add_lit];rw [Nat.add_assoc,show j / sz*sz+j % sz=j from Nat.div_add_mod' j sz] at hc;rw [hc];rw [hg] at hj;rw [←hj];congr 1;rw [show ((List.range n).map f).getD (j / sz) []=f (j / sz) by simp [List.getD,hi]]
theorem aAU {sz:Nat}:∀(els:List (List Value)),(∀c∈els,c.length=sz)→∀i t u,i<els.length→t<sz→els.flatten.set (i*sz+t) u=(els.set i ((els.getD i []).set t u)).flatten
 | [],_,i,t,u,hi,_=>pG
 | c::els,h,0,t,u,_,ht=>by
  have hc:c.length=sz:=h c zW;simp only [List.flatten_cons,Nat.zero_mul,Nat.zero_add,List.getD_cons_zero,List.set_cons_zero];rw [List.set_append_left _ _ zZ]
 | c::els,h,i+1,t,u,hi,ht=>by
  have hc:c.length=sz:=h c zW;simp only [List.flatten_cons,List.getD_cons_succ,List.set_cons_succ];rw [List.set_append_right _ _ (by rw [hc,Nat.add_mul];omega),hc,show (i+1)*sz+t-sz=i*sz+t by rw [Nat.add_mul];omega];rw [aAU els (fun c hc=>h c (lZ1 _ hc)) i t u uI ht]
theorem MO {β:Type} (l:List β) (x d:β) (h:i<l.length):(l.set i x).getD i d=x:=by simp [List.getD,h]
theorem RS {β:Type} (l:List β) (x d:β) (h:i≠j):(l.set i x).getD j d=l.getD j d:=by simp [List.getD,List.getElem?_set_ne h]
theorem NR {els:List (List Value)} (h:∀c∈els,c.length=sz) (hx:x.length=sz):∀c∈els.set i x,c.length=sz:=fun c hc=>by
 rcases List.mem_or_eq_of_mem_set hc with hc|rfl
 ·exact h c hc
 ·exact hx
theorem aL.opens {w:World} {base:Nat} {n cap:Nat} {els:List (List Value)} (h:aL w base E sz (.slice a n cap) els) (hn:els.length=n) (h0:0<n) :
  ∃g rest,a=some ⟨g,0,none⟩∧aF w g E (els.flatten++rest)∧base≤g∧n≤cap∧cap≤9223372036854775807∧∀w' els',els'.length=n→(∀c∈els',c.length=sz)→aF w' g E (els'.flatten++rest)→aL w' base E sz (.slice (some ⟨g,0,none⟩) n cap) els':=by
 subst hn;rcases h.row.2 with ⟨_,h2⟩|⟨g,cap',cur,e,hb,hg,hnc,hcm,hcs,htake⟩
 ·omega
 ·cases e
  have hfl:=bL els h.sz;have hcur:els.flatten++cur.toList.drop els.flatten.length=cur.toList:=by
   conv=>rhs;rw [←aZ3 els.flatten.length cur.toList]
   rw [hfl,htake]
  refine ⟨g,cur.toList.drop els.flatten.length,rfl,by unfold aF;rw [hg,hcur],hb,hnc,vZ,fun w' els' hl hs hr=>⟨?_,hs⟩⟩;have hfl':=bL els' hs;refine ⟨hfl',.inr ⟨g,cap,(els'.flatten++cur.toList.drop els.flatten.length).toArray,by rw [hl],hb,hr,by rw [hl];exact hnc,hcm,?_,?_⟩⟩
  ·refine bZ1 hcs ?_;have hle:els.length*sz≤cur.size:=bZ1 (Nat.mul_le_mul_right _ hnc) hcs;simp only [List.size_toArray,aZ1,gZ3,Array.length_toList];rw [hfl',hl,hfl];omega
  ·rw [←hfl'];simp
theorem aF.el {w:World} {els:List (List Value)} (h:aF w g E (els.flatten++rest)) (hs:∀c∈els,c.length=sz) (hi:i<els.length) (hj:j<sz):w.cell? ⟨g,i*sz+j,none⟩=some ((els.getD i []).getD j undef):=by
 have hg:=DI els hs i j hi hj;rw [h.cell,List.getElem?_append_left (List.getElem?_eq_some_iff.1 hg).1,hg]
theorem aF.QV {w:World} {els:List (List Value)} (h:aF w g E (els.flatten++rest)) (hs:∀c∈els,c.length=sz) {t:Nat} (hi:i<els.length) (ht:t<sz) (u:Value):aF (w.setCell ⟨g,i*sz+t,none⟩ u) g E ((els.set i ((els.getD i []).set t u)).flatten++rest):=by
 have hg:=DI els hs i t hi ht;have h2:=h.set (i*sz+t) u;rw [List.set_append_left _ _ (List.getElem?_eq_some_iff.1 hg).1,aAU els hs i t u hi ht] at h2;exact h2
section
variable {P:Program} (w:World)
theorem DC {a:Act} (s x:Operand) (t:TypeId)
  (ho:o.op=.call { callee:=.builtin .append,args:=#[s,x],argTypes:=#[t,t] })
  (base:Nat) (e:TypeId) (i:TypeInfo) (z:Value) (size bytes:Nat) (ht:P.underlying t=some (.slice e)) (hi:P.info? e=some i) (hz:i.zero=some z)
  (hsize:i.size=size) (hby:i.bytes=bytes) (hzs:z.cells.size=size) (hsz:0<size)
  (v:Value) (els:List (List Value)) (hs:a.eval s=v) (hown:aL w base e size v els)
  (ad:Addr) (c m:Nat) (new:List (List Value)) (hx:a.eval x=.slice (some ad) m c) (hm:new.length=m) (hl:∀c∈new,c.length=size) (hnews:∀j u,new.flatten[j]?=some u→w.cell? (ad.add j)=some u) (h1:∀u∈new.flatten,u.oneCell'=true)
  (h63:els.length+m≤9223372036854775807) (hbytes:(els.length+m)*bytes≤140737488355328) (hbase:base≤w.heap.size)
  (h:∀v' w',aL w' base e size v' (els++new)→aA (Own v) w w'→DZ w v v'→K (a.put o.dst v') w'):Oper.wp P o a w K Q:=by
 subst hsize;subst hby;subst hm;obtain ⟨v',w',hr,h2,h3,hf,h4⟩:=YT (P:=P) w base t o.type e i z ht hi hz hzs hsz v els.length els.flatten hown.row ad new.length c new.flatten (bL new hl) hnews h1 zC hbytes hbase;unfold Oper.wp execOp;simp only [ho,resolve,invoke,builtin,Sem.run_bind,Sem.run_pure,Result.andThen_ok,List.map_toArray,dZ2,List.map_nil,hs,hx,hr];refine h v' w' ⟨tW,fun c hc=>?_⟩ h3 hf;rcases jZ1.1 hc with hc|hc
 ·exact hown.sz c hc
 ·exact hl c hc
end
theorem EU {w:World} (h:aF w b E cs):∀j u,[cs].flatten[j]?=some u→w.cell? ((⟨b,0,none⟩:Addr).add j)=some u:=by
 intro j u hj;rw [Addr.add_lit];simp only [Nat.zero_add];rw [h.cell j];simpa using hj
end
end Go.Proofs.Q
