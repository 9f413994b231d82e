/- What (*arena.Arena).Free does: a copy of a node's free variables. -/
import Derived.Test.YtlldghknenbccaaGreatDoorRJoinB
import Derived.Test.YtlldghknenbccaaGreatDoorRBuiltsB
set_option linter.unusedSimpArgs false
set_option linter.unusedVariables false
set_option maxRecDepth 100000
set_option maxHeartbeats 8000000
namespace Go.Proofs.Q
open Go.RowKit Go.Maps Tryz
theorem aFM {O:Nat→Prop} {w:World} {g gm i:Nat} {A:aC} (hA:bW O w g gm A) (hi:i<A.nodes.length) (hl:(A.free.getD i []).length≤17592186044415) :
  Calls prog 33 #[.pointer (some ⟨g,0,none⟩),.int .i64 (i:Int)] w fun e w'=>∃v',e=.returned v'∧aL w' w.heap.size 3 1 v' (aO (A.free.getD i []))∧aA Nil w w':=by
 obtain ⟨B,vn,vf,vp,bm,ne,fe,h⟩:=hA;obtain ⟨an,cn,en⟩:=h.nodes.isSlice;obtain ⟨ap,cp,ep,hs⟩:=aL.sl (M:=Nil) (R:=FN (Off O g vn vf vp bm) w) (d:=[]) (xs:=A.free) h.free (fun _ _ h=>h) (by rw [h.fl,h.fl2]) (fun j hj=>h.fr j (by rw [←h.fl];exact hj));have hr:=h.row;rw [en,ep,h.nl] at hr;obtain ⟨m,hm⟩:∃m,m=fe.length:=⟨_,rfl⟩;have hk2:i<m:=by rw [hm,h.fl];exact hi
 obtain ⟨n,hn⟩:∃n,n=A.nodes.length:=⟨_,rfl⟩;rw [←hn] at hr hi;rw [←hm] at hr hs;obtain ⟨b,off,cs,rfl,-,-,-,hc,a2,n2,c2,rfl,hq⟩:=hs.at hk2;have cx:=hc 0 zY;rw [Nat.mul_one,Nat.add_zero] at cx;have cx':w.cell? ⟨b,off+i,none⟩=some (.slice a2 n2 c2):=cx;have hq':cE Nil w a2 n2 c2 (A.free.getD i []):=hq.move (aA.refl Nil w) (fun _ _ h=>h.elim) fun _ _ h=>h.elim;have hbl:b<w.heap.size:=by
  rcases Nat.lt_or_ge b w.heap.size with h1|h1
  ·exact h1
  ·simp [World.cell?,Array.getElem?_eq_none h1] at cx'
 have he:decide (0≤(i:Int)∧(i:Int)<(n:Int))=true:=zV;have j0:(0:Int)≤(i:Int):=zZ;have j1:(i:Int)<(m:Int):=zZ;have hg:=hr.lt;have HA:=jJ (aI5 hr hq' cx' hbl hl);have HE:=jJ he;clear h hr hs en ep hn hm hk2 hi he hc cx cx' hq hq' hl hbl;generalize A.free.getD i []=fl at *
 go_enter func33,ntmps33
 go_upto_region 3 with (go_at_call 71;go_loud (refine (DR (i:=(i:Int)) HA.o.1).mono ?_;rintro e w1 ⟨rfl,hk1⟩;rw [HE.o];have c1:w1.cell? ⟨g,1,none⟩=some (.slice (some ⟨b,off,none⟩) m cp):=(HA.o.1.keep hk1 id).cell 1;have hlw:=hk1.size;have cx:=hk1.eY HA.o.2.2.2.1 id HA.o.2.2.1;have H1:=jJ hk1;clear hk1))
 have hcl:=TB (HA.o.2.1.eO H1.o) HA.o.r4;have HC:=jJ hcl;clear hcl;go_wp2_with (go_at_call 75;refine HC.o.mono ?_;rintro e w2 ⟨v2,rfl,ho,hk2⟩;obtain ⟨a3,c3,rfl⟩:=ho.isSlice;have H2:=jJ (aI ho hk2);clear ho hk2)
 go_ret
 exact⟨_,rfl,H2.o.1.base H1.o.size,H1.o.trans H2.o.2⟩
def nT (A:aC) (v:Int) (x:Int):Bool:=!decide (v∈A.free.getD x.toNat [])
theorem aXG {O:Nat→Prop} {w:World} {g gm ba bv i:Nat} {A:aC} {v:Int} (hA:bW O w g gm A) (hi:i<A.nodes.length) (hl:(A.free.getD i []).length≤17592186044415) (ra:aF w ba 42 [.pointer (some ⟨g,0,none⟩)]) (rv:aF w bv 3 [.int .i64 v]) :
  Calls prog 45 #[.int .i64 (i:Int),.pointer (some ⟨ba,0,none⟩),.pointer (some ⟨bv,0,none⟩)] w fun e w'=>e=.returned (.bool (nT A v (i:Int)))∧aA Nil w w':=by
 have hf:=fun (W:World) (q:aA Nil w W)=>aFM (hA.keep q fun _ h=>h.elim) hi hl;have HA:=jJ (aI3 hf ra rv);have c0:=ra.one.1;have c1:=rv.one.1;have l0:=ra.lt;have l1:=rv.lt;have es:nT A v (i:Int)=!decide (v∈A.free.getD i []):=rfl;rw [es];clear hA hf hl ra rv es;generalize A.free.getD i []=fl at *
 go_enter func45,ntmps45
 go_upto_region 1 with (fail)
 refine dJ (aA Nil w) [] zX ?_;have hS:aA Nil w (World.drew w):=kOf;refine aH 0 (bM9 10 7) hS ?_;refine aH 1 (bM9 9 7) hS ?_;refine aH 3 (bM9 7 7) hS ?_;refine aK 2 fun K hK=>?_;go_simp
 refine (HA.o.1 _ hS).mono ?_;rintro e w1 ⟨v2,rfl,ho,hk⟩;refine hK.out _ _ (fun h=>h.trans hk) ?_;clear hK K;try simp only [Act.put,sN,sL]
 replace hS:=hS.trans hk;obtain ⟨a3,c3,rfl⟩:=ho.isSlice;rw [aJ] at ho⊢;have hq:=kG (M:=Nil) ho (fun _ _ h=>h) rfl;have HQ:=jJ hq;clear ho hq;refine aK 4 fun K hK=>?_;go_simp
 refine (MU (x:=v) HQ.o).mono ?_;rintro e w1 ⟨rfl,hk⟩;refine hK.out _ _ (fun h=>h.trans hk) ?_;clear hK K;try simp only [Act.put,sN,sL]
 replace hS:=hS.trans hk;refine aH 5 (bM9 31 7) hS ?_;refine aH 6 (bM9 63 7) hS ?_;refine BA zX ?_ _;go_wp2_with fail
 go_ret
 exact⟨rfl,hS⟩
section
variable {Inv:Nat→World→Prop} {a:Option Addr} {K Z:Nat→Prop} {zs:List Int} {w:World} {fn n c:Nat}
theorem aLZ {cap:Array Value} (h:cE K w a n c zs) (heg:∀args w,(callFunc fn args).run prog w=.ok (.enter fn args) w)
  (hcall:∀k W,k<n→Inv k W→aA K w W→Calls prog fn (#[.int .i64 (zs.getD k 0)]++cap) W fun e w'=>(∃b,e=.returned (.bool b)∧(Z k→b=false))∧Inv (k+1) w'∧aA K W w') (hI:Inv 0 w) (hn:n≤1000000000) :
  Calls prog 134 #[.slice a n c,.func (.func fn) #[] cap] w fun e w'=>(∃r:Int,e=.returned (.int .i64 r)∧-1≤r∧((∀k,k<n→Z k)→r=-1))∧(∃k,k≤n∧Inv k w')∧aA K w w':=by
 have HA:=jJ (aI3 h hcall hI);clear h hcall hI;go_enter func134,ntmps134
 go_wp2_with fail
 go_loopw [8] (fun i wr=>∃k:Nat,i=.int .i64 k∧k≤n∧Inv k wr∧aA K w wr) (fun i _=>n-(intOf i).toNat)
 case atStart=>exact⟨0,rfl,aZ2 _,HA.o.2.2,aA.refl _ _⟩
 case round=>
  obtain ⟨k,rfl,hk,hj,hkr⟩:=hrel;by_cases hkn:k<n
  ·obtain ⟨b,off,rfl,ck⟩:=bA (HA.o.1.move hkr (fun _ _ h=>h) fun _ _ h=>h) hkn;have j0:(0:Int)≤(k:Int):=zZ;have j1:(k:Int)<(n:Int):=zZ;have hc:=HA.o.2.1 k wr hkn hj hkr;have HK:=jJ (aI hc hkr);clear hj hkr hc;obtain ⟨x,hx⟩:∃x,x=zs.getD k 0:=⟨_,rfl⟩;rw [←hx] at ck HK;clear hx;go_wp2_with (refine HK.o.1.mono ?_;rintro e w1 ⟨⟨t,rfl,hzt⟩,hI1,hk1⟩;have H1:=jJ (aI3 hI1 (HK.o.2.trans hk1) hzt);clear hI1 hk1 hzt)
   case roundEnd=>exact⟨⟨k+1,zF,hkn,H1.o.1,H1.o.2.1⟩,zI⟩
   go_ret
   exact⟨⟨(k:Int),rfl,zZ,fun e=>by simp_all [H1.o.2.2 (e k hkn)]⟩,⟨k+1,hkn,H1.o.1⟩,H1.o.2.1⟩
  ·have ekn:n=k:=zZ;have HK:=jJ (aI hj hkr);clear hj hkr;go_wp2_with fail
   go_ret
   exact⟨⟨-1,rfl,Int.le_refl _,fun _=>rfl⟩,⟨k,hk,HK.o.1⟩,HK.o.2⟩
theorem aKS {cap:Array Value} (h:cE K w a n c zs) (heg:∀args w,(callFunc fn args).run prog w=.ok (.enter fn args) w)
  (hcall:∀k W,k<n→Inv k W→aA K w W→Calls prog fn (#[.int .i64 (zs.getD k 0)]++cap) W fun e w'=>(∃b,e=.returned (.bool b)∧(Z k→b=false))∧Inv (k+1) w'∧aA K W w') (hI:Inv 0 w) (hn:n≤1000000000) :
  Calls prog 95 #[.slice a n c,.func (.func fn) #[] cap] w fun e w'=>(∃b:Bool,e=.returned (.bool b)∧((∀k,k<n→Z k)→b=false))∧(∃k,k≤n∧Inv k w')∧aA K w w':=by
 have hx:=aLZ h heg hcall hI hn;have HX:=jJ hx;clear h hx hcall hI;go_enter func95,ntmps95
 go_wp2_with (go_at_call 134;refine HX.o.mono ?_;rintro e w1 ⟨⟨r,rfl,hr,h0⟩,hi,hk1⟩;have H1:=jJ (aI3 h0 hi hk1);clear h0 hi hk1)
 go_ret
 exact⟨⟨_,rfl,fun e=>by rw [H1.o.1 e];rfl⟩,H1.o.2.1,H1.o.2.2⟩
end
theorem jW.look {P:Program} {kt et t:TypeId} {w:World} {b m:Nat} {C:Int→Int} {v:Int} (h:jW P kt et w b m C) (hk:P.underlying kt=some (.int .i64)) (ht:P.underlying t=some (.map kt et)) (he:P.underlying et=some (.int .i64)) (hz:∀w,(zeroValue et).run P w=.ok (.int .i64 0) w) (hv:fI v):∀w',aA Nil w w'→(Instr.lookup t (.map (some b)) (.int .i64 v) false).run P w'=.ok (.int .i64 (C v)) w':=fun w' k=>by
 obtain ⟨D,q1,q2⟩:=h.keep k id;obtain ⟨c,hrun,hat,-⟩:=q1.lookup_int (int_keyed hk) ht he (hz w') (CQ hk hv);have h2:=hat.symm.trans (q2 v hv);simp only [DataW.lit.injEq,Lit.int.injEq,true_and] at h2;rw [hrun,h2]
def kq (c:Int) (k:Nat):Nat:=if c=0 then k else 0
inductive NoQ (L:List aS):Int→Prop
 | mk {x:Int}:(L.getD x.toNat aP).kind<7→(∀k∈(L.getD x.toNat aP).kids,NoQ L k)→NoQ L x
theorem NoQ.opens {L:List aS} {x:Int} (h:NoQ L x):(L.getD x.toNat aP).kind<7∧∀k∈(L.getD x.toNat aP).kids,NoQ L k:=by
 cases h with
 | mk h1 h2=>exact⟨h1,h2⟩
def lM (L:List aS) (C:Int→Int):Nat→Nat
 | 0=>0
 | n+1=>lM L C n+kq (C (n:Int)) (L.getD n aP).kids.length
theorem aHZ {L:List aS} {C:Int→Int} {i:Nat} {y:Int} (hy:y≠0):∀N,lM L (fun u=>if (i:Int)=u then y else C u) N+(if i<N then kq (C (i:Int)) (L.getD i aP).kids.length else 0)=lM L C N
 | 0=>rfl
 | n+1=>by
  have ih:=aHZ (L:=L) (C:=C) (i:=i) hy n;simp only [lM];have hk:∀k,kq y k=0:=fun k=>if_neg hy;by_cases e:i=n
  ·subst e;rw [if_pos rfl,hk,if_pos (Nat.lt_succ_self i)];rw [if_neg (Nat.lt_irrefl i)] at ih;omega
  ·rw [if_neg (show ¬(i:Int)=(n:Int) by omega)];by_cases h:i<n
   ·rw [if_pos h] at ih;rw [if_pos zZ];omega
   ·rw [if_neg h] at ih;rw [if_neg zZ];omega
structure EZ (O:Nat→Prop) (g gm bm ba bv bs bw mb:Nat) (v:Int) (vars:List Int) (sa:Option Addr) (ns cs:Nat) (A:aC) (W:World):Prop where
 arena:bW O W g gm A
 rm:aF W bm 86 [.map (some mb)]
 ra:aF W ba 42 [.pointer (some ⟨g,0,none⟩)]
 rv:aF W bv 3 [.int .i64 v]
 rs:aF W bs 56 [.slice sa ns cs]
 rw:aF W bw 89 [.func (.func 94) #[] #[.pointer (some ⟨bm,0,none⟩),.pointer (some ⟨ba,0,none⟩),.pointer (some ⟨bv,0,none⟩),.pointer (some ⟨bs,0,none⟩),.pointer (some ⟨bw,0,none⟩)]]
 vs:cE (One mb) W sa ns cs vars
 off:¬O mb
 ne:bm≠mb∧ba≠mb∧bv≠mb∧bs≠mb∧bw≠mb
theorem EZ.keep {O:Nat→Prop} {g gm bm ba bv bs bw mb:Nat} {v:Int} {vars:List Int} {sa:Option Addr} {ns cs:Nat} {A:aC} {W W':World} (h:EZ O g gm bm ba bv bs bw mb v vars sa ns cs A W) (k:aA (One mb) W W'):EZ O g gm bm ba bv bs bw mb v vars sa ns cs A W' where
 arena:=h.arena.keep k fun b hb ho=>h.off (by rw [←show b=mb from hb];exact ho)
 rm:=h.rm.keep k h.ne.1
 ra:=h.ra.keep k h.ne.2.1
 rv:=h.rv.keep k h.ne.2.2.1
 rs:=h.rs.keep k h.ne.2.2.2.1
 rw:=h.rw.keep k h.ne.r4
 vs:=h.vs.move k (fun _ _ h=>h) fun _ _ h=>h
 off:=h.off
 ne:=h.ne
def CX (W:World) (mb n:Nat) (C:Int→Int):Prop:=jW prog 3 3 W mb n C∧∀u,0≤C u∧C u≤(n:Int)
theorem CX.eO {W W':World} {mb n:Nat} {C:Int→Int} (h:CX W mb n C) (k:aA Nil W W'):CX W' mb n C:=⟨h.1.keep k id,h.2⟩
def aGC (L:List aS) (x:Int) (W:World) (mb t:Nat) (e:Ending) (w':World):Prop:=(∃b:Bool,e=.returned (.bool b)∧(NoQ L x→b=false))∧(∃n C,CX w' mb n C∧n+lM L C L.length≤t)∧aA (One mb) W w'
theorem aPA {O:Nat→Prop} {g gm bm ba bv bs bw mb:Nat} {v:Int} {vars:List Int} {sa:Option Addr} {ns cs:Nat} {A:aC} (hlen:A.nodes.length≤1000000) (hz:∀i,i<A.nodes.length→FQ (A.nodes.getD i aP)) (hfl:∀i,i<A.nodes.length→(A.free.getD i []).length≤17592186044415) (hb:Below A.nodes) :
  ∀(i:Nat) (W:World) (n:Nat) (C:Int→Int),i<A.nodes.length→EZ O g gm bm ba bv bs bw mb v vars sa ns cs A W→CX W mb n C→n+lM A.nodes C A.nodes.length+1≤1000000000 →
   Calls prog 94 #[.int .i64 (i:Int),.pointer (some ⟨bm,0,none⟩),.pointer (some ⟨ba,0,none⟩),.pointer (some ⟨bv,0,none⟩),.pointer (some ⟨bs,0,none⟩),.pointer (some ⟨bw,0,none⟩)] W fun e w'=>aGC A.nodes (i:Int) W mb (n+lM A.nodes C A.nodes.length+1) e w':=by
 intro i;induction i using Nat.strongRecOn with
 | ind i ih=>
  intro W n C hi hW hm hpot;have hsz:=hz i hi;have hnode:=fun (W:World) (hA:bW O W g gm A)=>DL hA hi hlen hsz;have hfree:=fun (W:World) (hA:bW O W g gm A)=>aFM hA hi (hfl i hi);obtain ⟨fl,hfle⟩:∃fl,fl=A.free.getD i []:=⟨_,rfl⟩;rw [←hfle] at hfree;clear hfle;have hkb:∀k∈(A.nodes.getD i aP).kids,0≤k∧k<(i:Int):=hb i hi;have hCi:=hm.2 (i:Int);obtain ⟨c,hc⟩:∃c,c=C (i:Int):=⟨_,rfl⟩;rw [←hc] at hCi;have hp:=aHZ (L:=A.nodes) (C:=C) (i:=i) (y:=c+1) zZ A.nodes.length;rw [if_pos hi,←hc] at hp;have heg:∀args w,(callFunc 94 args).run prog w=.ok (.enter 94 args) w:=enters_of func94 zX rfl;obtain ⟨N,hN⟩:∃N,N=A.nodes.getD i aP:=⟨_,rfl⟩;have hk4:NoQ A.nodes (i:Int)→N.kind<7∧∀k∈N.kids,NoQ A.nodes k:=fun h=>by
   have h1:=h.opens;rw [bZ3,←hN] at h1;exact h1
  rw [←hN] at hnode hkb hp hsz;obtain ⟨t,ht⟩:∃t,t=n+lM A.nodes C A.nodes.length+1:=⟨_,rfl⟩;have ci64:fI (i:Int):=⟨zZ,zZ⟩;have c1i64:fI (c+1):=⟨zZ,zZ⟩;obtain ⟨m0,-⟩:=hW.rm.one;have cb0:0≤c:=hCi.1;have cb1:c≤1000000000:=zZ;have lm:=hW.rm.lt;have la:=hW.ra.lt;have lv:=hW.rv.lt;rw [←ht];have HW:=jJ (aI5 hW hm hpot hCi hc);have HK:=jJ (aI6 hkb hk4 hp ih heg ht);have HF:=jJ (aI3 hnode hfree hsz);have HI:=jJ (aI ci64 c1i64);clear hW hm hpot hCi hc hkb hk4 hp ih hnode hfree hsz ci64 c1i64 hz hfl hb hN ht;go_enter func94,ntmps94
  go_upto_region 2 with (first|(at_lookup;refine YN _ rfl _ _ 86 rfl 3 3 underlying3 underlying86 underlying3 (zeroValue3 _) mb n C rfl HW.o.2.1.1 (i:Int) rfl HI.o.1 ?_;rw [←HW.o.r4])|(at_mapUpdate;go_loud (refine YX _ rfl _ _ _ 86 rfl 3 3 underlying3 underlying86 underlying3 mb n C rfl HW.o.2.1.1 (by unfold maxLen;have:=HW.o.2.2.1;omega) (i:Int) (c+1) rfl HI.o.1 rfl HI.o.2 ?_);intro w1 hm1 hk1;have H1:=jJ (aI hm1 hk1);clear hm1 hk1))
  have hW1:=HW.o.1.keep H1.o.2;have hlk:=jW.look H1.o.1 underlying3 underlying86 underlying3 (fun w=>zeroValue3 w) HI.o.1;rw [show (if (i:Int)=(i:Int) then c+1 else C (i:Int))=c+1 from if_pos rfl] at hlk;have hm1:CX w1 mb (n+1) (fun u=>if (i:Int)=u then c+1 else C u):=⟨H1.o.1,fun u=>by
   have h1:=HW.o.2.1.2 u;have h2:=HW.o.2.2.2.1;simp only;split
   ·omega
   ·omega⟩
  obtain ⟨C1,hC1⟩:∃C1:Int→Int,C1=fun u=>if (i:Int)=u then c+1 else C u:=⟨_,rfl⟩
  have hp1:=HK.o.2.2.1;rw [←hC1] at hm1 hp1;obtain ⟨m1,-⟩:=hW1.rm.one;obtain ⟨a1,-⟩:=hW1.ra.one;obtain ⟨v1,-⟩:=hW1.rv.one;have lm1:=hW1.rm.lt;have la1:=hW1.ra.lt;have lv1:=hW1.rv.lt;have HL:=jJ hlk;have HM:=jJ (aI3 hW1 hm1 hp1);clear hW1 hlk hm1 hC1 hp1 m0 lm la lv;by_cases hc0:c=0
  ·have ec:decide (c+1 > 1)=false:=zV;have hp1:=HM.o.2.2;unfold kq at hp1;rw [if_pos hc0] at hp1;have HC:=jJ hp1;clear hp1 hc0;refine dJ (aA Nil w1) [] zX ?_;have hS:aA Nil w1 (World.drew w1):=kOf;refine aH 0 (bM9 2 12) hS ?_;refine aH 1 (bM9 1 12) hS ?_;refine SL (i:=2) (v:=?v2) (bM9 3 12) rfl zX (Or.inl ⟨zU,?y2⟩) hS ?r2
   case y2=>exact sD
   try simp only [Act.put,sN,sL]
   refine aH 3 (bM9 7 12) hS ?_;refine aH 4 (bM9 15 12) hS ?_;refine aH 5 (bM9 351 12) hS ?_;refine aH 6 (bM9 319 12) hS ?_;refine aH 8 (bM9 255 12) hS ?_;refine aK 7 fun K hK=>?_;go_simp
   refine (HF.o.2.1 _ (HM.o.1.arena.keep hS fun _ h=>h.elim)).mono ?_;rintro e w1 ⟨v2,rfl,ho,hk⟩;refine hK.out _ _ (fun h=>h.trans hk) ?_;clear hK K;try simp only [Act.put,sN,sL]
   replace hS:=hS.trans hk;obtain ⟨a3,c3,rfl⟩:=ho.isSlice;rw [aJ] at ho⊢;have hq:=kG (M:=Nil) ho (fun _ _ h=>h) rfl;have HQ:=jJ hq;clear ho hq;refine aK 9 fun K hK=>?_;go_simp
   refine (MU (x:=v) HQ.o).mono ?_;rintro e w1 ⟨rfl,hk⟩;refine hK.out _ _ (fun h=>h.trans hk) ?_;clear hK K;try simp only [Act.put,sN,sL]
   replace hS:=hS.trans hk;refine aH 10 (bM9 1023 12) hS ?_;refine aH 11 (bM9 2047 12) hS ?_;refine BA zX ?_ _;obtain ⟨fr,hfr⟩:∃b,b=decide (v∈fl):=⟨_,rfl⟩;rw [←hfr];have hwS:=hS.of_nil (M:=One mb);have hW3:=HM.o.1.keep hwS;have hm3:=HM.o.2.1.eO hS;have hk3:=H1.o.2.trans hwS;have ht:=HK.o.r5;have HS:=jJ (aI4 hW3 hm3 hk3 ht);clear hS hfr hwS hW3 hm3 hk3 ht;cases fr
   ·go_wp2_with fail
    go_ret
    exact⟨⟨false,rfl,fun _=>rfl⟩,⟨n+1,C1,HS.o.2.1,by have:=HC.o;have:=HS.o.2.2.2;omega⟩,HS.o.2.2.1⟩
   ·obtain ⟨b1,-⟩:=HS.o.1.ra.one;have lb1:=HS.o.1.ra.lt;go_upto_region 5 with (go_at_call 23;refine (HF.o.1 _ HS.o.1.arena).mono ?_;rintro e w4 ⟨gd,ad,nd,cd,ap,np,cp,gk,ak,nk,ck,aq,nq,cq,els,rfl,ha,ho,hq,hk4⟩;have H4:=jJ (aI hq hk4);clear ha ho hq hk4)
    obtain ⟨w5,e5,k5,r5⟩:=bx1 w4 59 [.int .i64 N.kind,.bool gd,.slice ad nd cd,.slice ap np cp,.bool gk,.slice ak nk ck,.int .i64 N.var,.slice aq nq cq];rw [e5];clear e5 m1 a1 v1 b1;have hnq:N.kids.length=nq:=by
     obtain ⟨a',c',e⟩:=H4.o.1.isSlice;rw [aJ] at e;cases e;rfl
    have hmlt:=HS.o.2.1.1.lt;have hks:cE (One mb) w5 aq nq cq N.kids:=(kG (M:=One mb) H4.o.1 (fun b hb hm=>by have h1:=(H4.o.1.lt b hb).1;have h2:b=mb:=hm;omega) hnq).eO k5;have k35:=H4.o.2.trans k5;have hW5:=HS.o.1.keep (k35.of_nil (M:=One mb));have hm5:=HS.o.2.1.eO k35;have hcap:=eU.cap hks;have hle:=eU.le hks;have hcf:=fun (wx:World) (kx:aA Nil w5 wx)=>aKS (K:=One mb) (Z:=fun k=>NoQ A.nodes (N.kids.getD k 0)) (fn:=94) (cap:=#[.pointer (some ⟨bm,0,none⟩),.pointer (some ⟨ba,0,none⟩),.pointer (some ⟨bv,0,none⟩),.pointer (some ⟨bs,0,none⟩),.pointer (some ⟨bw,0,none⟩)]) (Inv:=fun k W'=>EZ O g gm bm ba bv bs bw mb v vars sa ns cs A W'∧∃n' C',CX W' mb n' C'∧n'+lM A.nodes C' A.nodes.length≤n+1+lM A.nodes C1 A.nodes.length+k) (hks.eO kx) HK.o.r4.1 (fun k W' hk hInv hke=>by
     obtain ⟨hWk,n',C',hmk,hpk⟩:=hInv;have hkm:=HK.o.1 (N.kids.getD k 0) (cK 0 (by rw [hnq];exact hk));obtain ⟨m,hm⟩:∃m:Nat,N.kids.getD k 0=(m:Int):=⟨(N.kids.getD k 0).toNat,zZ⟩;have h1:=HC.o;have h2:=HW.o.2.2.1;rw [hnq] at h1;rw [hm] at hkm⊢;refine (HK.o.2.2.2.1 m zZ W' n' C' zZ hWk hmk zZ).mono ?_;rintro e w' ⟨⟨b,rfl,hb⟩,⟨n2,C2,q1,q2⟩,q3⟩;exact⟨⟨b,rfl,hb⟩,⟨hWk.keep q3,n2,C2,q1,zZ⟩,q3⟩) ⟨hW5.keep (kx.of_nil (M:=One mb)),n+1,C1,hm5.eO kx,bZ2 _⟩ (by have:=HF.o.2.2.kids;omega)
    obtain ⟨d0,d1,d2,d3,d4,d5,d6,d7⟩:=r5.fV;obtain ⟨s0,-⟩:=hW5.rs.one;obtain ⟨f0,-⟩:=hW5.rw.one;have ls:=hW5.rs.lt;have lw:=hW5.rw.lt;have l5:=r5.lt;have hk5:=HS.o.2.2.1.trans (k35.of_nil (M:=One mb));have HKX:=jJ k5;have H5:=jJ (aI5 hcf hW5 hk5 hnq r5);clear hks hW5 hm5 hcf hk5 hnq r5 k35 k5 hmlt;have hfin:∀(wx w7:World) (b:Bool) (kk:Nat),aA Nil w5 wx→kk≤nq→(∃n' C',CX w7 mb n' C'∧n'+lM A.nodes C' A.nodes.length≤n+1+lM A.nodes C1 A.nodes.length+kk)→aA (One mb) wx w7→(NoQ A.nodes (i:Int)→b=false)→aGC A.nodes (i:Int) W mb t (.returned (.bool b)) w7:=fun wx w7 b kk k1 hk ⟨n',C',q1,q2⟩ k2 hb=>by
     refine ⟨⟨b,rfl,hb⟩,⟨n',C',q1,?_⟩,(H5.o.2.2.1.trans k1.of_nil).trans k2⟩;have h1:=HC.o;rw [H5.o.2.2.2.1] at h1;have h2:=HS.o.2.2.2;omega
    have hz4:NoQ A.nodes (i:Int)→∀k,k<nq→NoQ A.nodes (N.kids.getD k 0):=fun h k hk=>(HK.o.2.1 h).2 _ (cK 0 (by rw [H5.o.2.2.2.1];exact hk));have HE:=jJ (aI hfin hz4);clear hfin hz4;by_cases h7:7≤N.kind
    ·have e7:decide (N.kind ≥ 7)=true:=by simpa using h7
     have hct:=MU (x:=N.var) H5.o.2.1.vs;obtain ⟨bb,hbb⟩:∃b,b=decide (N.var∈vars):=⟨_,rfl⟩;rw [←hbb] at hct;have HCT:=jJ hct;clear hct hbb;cases bb
     ·go_wp2_with (first|(go_at_call 46;refine HCT.o.mono ?_;rintro e w6 ⟨rfl,hk6⟩;have r6:=H5.o.r4.keep hk6 id;obtain ⟨x0,x1,x2,x3,x4,x5,x6,x7⟩:=r6.fV;obtain ⟨g0,-⟩:=(H5.o.2.1.keep (hk6.of_nil (M:=One mb))).rw.one;have H6:=jJ hk6;clear hk6 r6)|(go_at_call 95;refine (H5.o.1 _ H6.o).mono ?_;rintro e w7 ⟨⟨b,rfl,hb0⟩,⟨kk,hkk,-,hmet⟩,hk7⟩;have H7:=jJ (aI4 hb0 hkk hmet hk7);clear hb0 hkk hmet hk7))
      go_ret
      exact HE.o.1 _ _ _ _ H6.o H7.o.2.1 H7.o.2.2.1 H7.o.2.2.2 fun h=>absurd (HK.o.2.1 h).1 zZ
     ·go_wp2_with (go_at_call 46;refine HCT.o.mono ?_;rintro e w6 ⟨rfl,hk6⟩;have H6:=jJ hk6;clear hk6)
      go_ret
      exact HE.o.1 _ _ _ 0 H6.o (aZ2 _) ⟨n+1,C1,(HS.o.2.1.eO (H4.o.2)).eO (HKX.o.trans H6.o),bZ2 _⟩ (aA.refl _ _) fun h=>absurd (HK.o.2.1 h).1 zZ
    ·have e7:decide (N.kind ≥ 7)=false:=by simpa using h7
     go_wp2_with (go_at_call 95;refine (H5.o.1 _ (aA.refl Nil w5)).mono ?_;rintro e w7 ⟨⟨b,rfl,hb0⟩,⟨kk,hkk,-,hmet⟩,hk7⟩;have H7:=jJ (aI4 hb0 hkk hmet hk7);clear hb0 hkk hmet hk7)
     go_ret
     exact HE.o.1 _ _ _ _ (aA.refl Nil w5) H7.o.2.1 H7.o.2.2.1 H7.o.2.2.2 fun h=>H7.o.1 (HE.o.2 h)
  ·have ec:decide (c+1 > 1)=true:=zV;have hp1:=HM.o.2.2;unfold kq at hp1;rw [if_neg hc0] at hp1;have HC:=jJ hp1;clear hp1 hc0;refine dJ (aA Nil w1) [] zX ?_;have hS:aA Nil w1 (World.drew w1):=kOf;refine aH 0 (bM9 2 12) hS ?_;refine aH 1 (bM9 1 12) hS ?_;refine SL (i:=2) (v:=?v3) (bM9 3 12) rfl zX (Or.inl ⟨zU,?y3⟩) hS ?r3
   case y3=>exact sD
   try simp only [Act.put,sN,sL]
   refine aH 3 (bM9 7 12) hS ?_;refine aH 4 (bM9 15 12) hS ?_;refine aH 5 (bM9 351 12) hS ?_;refine aH 6 (bM9 319 12) hS ?_;refine aH 7 (bM9 383 12) hS ?_;refine aH 8 (bM9 255 12) hS ?_;refine aH 9 (bM9 511 12) hS ?_;refine aH 10 (bM9 1023 12) hS ?_;refine aH 11 (bM9 2047 12) hS ?_;refine BA zX ?_ _;go_wp2_with fail
   go_ret
   exact⟨⟨false,rfl,fun _=>rfl⟩,⟨n+1,C1,HM.o.2.1.eO hS,by have:=HC.o;have:=HK.o.r5;omega⟩,H1.o.2.trans hS.of_nil⟩
end Go.Proofs.Q
