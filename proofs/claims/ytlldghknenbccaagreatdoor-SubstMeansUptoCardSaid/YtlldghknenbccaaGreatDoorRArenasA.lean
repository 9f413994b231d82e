/- What the arena's small functions do, said of its box. -/
import Derived.Test.YtlldghknenbccaaGreatDoorRKeys
import Derived.Test.YtlldghknenbccaaGreatDoorRMeters
set_option linter.unusedSimpArgs false
set_option linter.unusedVariables false
set_option maxRecDepth 100000
set_option maxHeartbeats 4000000
namespace Go.Proofs.Q
open Go.RowKit Tryz
section
variable {w:World} {g:Nat} {p a:Option Addr} {v1 v2 v3:Value} {i:Int}
theorem aDO {v0:Value} (h:aF w g 118 [v0,v1,v2,v3,.pointer p]) :
  Calls prog 31 #[.pointer (some ⟨g,0,none⟩)] w fun e w'=>e=.returned (.pointer p)∧aA Nil w w':=by
 have c4:w.cell? ⟨g,4,none⟩=some (.pointer p):=h.cell 4;have hg:=h.lt;clear h;go_enter func31,ntmps31
 go_wp2_with fail
 go_ret
 exact⟨rfl,aA.refl Nil w⟩
theorem DR {n c:Nat} {v4:Value} (h:aF w g 118 [.slice a n c,v1,v2,v3,v4]) :
  Calls prog 71 #[.pointer (some ⟨g,0,none⟩),.int .i64 i] w fun e w'=>e=.returned (.bool (decide (0≤i∧i<n)))∧aA Nil w w':=by
 have c0:w.cell? ⟨g,0,none⟩=some (.slice a n c):=h.cell 0;have hg:=h.lt;clear h;by_cases h0:0≤i
 ·by_cases h1:i<n
  ·have e:decide (0≤i∧i<(n:Int))=true:=by simp [h0,h1]
   rw [e];clear e;go_enter func71,ntmps71
   go_wp2_with fail
   go_ret
   exact⟨rfl,kOf⟩
  ·have e:decide (0≤i∧i<(n:Int))=false:=by simp [h1]
   rw [e];clear e;go_enter func71,ntmps71
   go_wp2_with fail
   go_ret
   exact⟨rfl,kOf⟩
 ·have e:decide (0≤i∧i<(n:Int))=false:=by simp [h0]
  rw [e];clear e;go_enter func71,ntmps71
  go_wp2_with fail
  go_ret
  exact⟨rfl,kOf⟩
end
def mU (B:Nat) (E:TypeId) (n:Nat) (xs:List Value):Value→World→Prop:=fun v w=>∃b,v=.slice (some ⟨b,0,none⟩) n n∧aF w b E xs∧B≤b
instance {B:Nat} {E:TypeId} {n:Nat} {xs:List Value}:Stable (mU B E n xs):=⟨fun _ _ _ k ⟨b,e,h,q⟩=>⟨b,e,h.keep k id,q⟩⟩
def LJ (B:Nat):Value→World→Prop:=fun v w=>∃b,v=.map (some b)∧(w.heap[b]?=some (.map #[] 0)∧b<w.heap.size)∧B≤b
instance {B:Nat}:Stable (LJ B):=⟨fun _ _ _ k ⟨b,e,h,q⟩=>⟨b,e,⟨(k.block b h.2 id).trans h.1,cZ1 h.2 k.size⟩,q⟩⟩
theorem bDL {w:World} {gm:Nat}:Calls prog 28 #[.pointer (some ⟨gm,0,none⟩)] w fun e w'=>∃g b2 b3 b4 b5,e=.returned (.pointer (some ⟨g,0,none⟩))∧aF w' g 118 [.slice (some ⟨b2,0,none⟩) 2 2,.slice (some ⟨b3,0,none⟩) 2 2,.slice (some ⟨b4,0,none⟩) 2 2,.map (some b5),.pointer (some ⟨gm,0,none⟩)]∧aF w' b2 59 [.int .i64 0,.bool false,.slice none 0 0,.slice none 0 0,.bool false,.slice none 0 0,.int .i64 0,.slice none 0 0,.int .i64 1,.bool false,.slice none 0 0,.slice none 0 0,.bool false,.slice none 0 0,.int .i64 0,.slice none 0 0]∧aF w' b3 56 [.slice none 0 0,.slice none 0 0]∧aF w' b4 3 [.int .i64 0,.int .i64 0]∧w'.heap[b5]?=some (.map #[] 0)∧aA Nil w w'∧w.heap.size≤g∧w.heap.size≤b2∧w.heap.size≤b3∧w.heap.size≤b4∧w.heap.size≤b5:=by
 go_enter func28,ntmps28
 go_upto_region 3 with fail
 refine aX 10 [7,8,9] [9,10,11,12,13,14,15,16,17,2] [9,10,11,12,13,14,15] [Un (eT ?v1_0),Un (eT ?v1_1),Un (mU w.heap.size 59 2 [.int .i64 0,.bool false,.slice none 0 0,.slice none 0 0,.bool false,.slice none 0 0,.int .i64 0,.slice none 0 0,.int .i64 1,.bool false,.slice none 0 0,.slice none 0 0,.bool false,.slice none 0 0,.int .i64 0,.slice none 0 0]),Un (mU w.heap.size 56 2 [.slice none 0 0,.slice none 0 0]),Un (mU w.heap.size 3 2 [.int .i64 0,.int .i64 0]),Un (LJ w.heap.size),Un (eT ?v1_6),nothing,nothing,nothing] (aB.sk (aB.sk (aB.sk (aB.nx ?r1_6 (aB.nx ?r1_5 (aB.nx ?r1_4 (aB.nx ?r1_3 (aB.nx ?r1_2 (aB.nx ?r1_1 (aB.nx ?r1_0 aB.zero)))))))))) ?rfn1
 case' r1_0|r1_1|r1_2|r1_3|r1_4|r1_5|r1_6=>
  intro us wj hk hp K hK;try simp only [aQ,Act.put,sL] at hK⊢
  skip
 case' r1_0|r1_1|r1_6=>
  go_simp
  refine hK.out _ _ (aA.refl _ _) ?_;exact rfl
 case' r1_2=>
  have e0:us 9=_:=hp 0;have e1:us 10=_:=hp 1;rw [e0,e1] at hK⊢;skip
  go_simp
  refine hK.out _ _ ?_ ?_
  ·exact kkA
  ·exact⟨wj.heap.size,rfl,aF.alloc,hk.size⟩
 case' r1_3|r1_4=>
  skip
  go_simp
  refine hK.out _ _ ?_ ?_
  ·exact kkA
  ·exact tC
 case' r1_5=>
  skip
  go_simp
  refine hK.out _ _ ?_ ?_
  ·exact kkA
  ·exact pV
 case' rfn1=>
 intro us wz hkz hf;simp only [aQ,Act.put,sL];have e0:us 9=_:=hf 0;have e1:us 10=_:=hf 1;obtain ⟨b2,e2,h2,q2⟩:(mU w.heap.size 59 2 [.int .i64 0,.bool false,.slice none 0 0,.slice none 0 0,.bool false,.slice none 0 0,.int .i64 0,.slice none 0 0,.int .i64 1,.bool false,.slice none 0 0,.slice none 0 0,.bool false,.slice none 0 0,.int .i64 0,.slice none 0 0]) (us 11) wz:=hf 2;obtain ⟨b3,e3,h3,q3⟩:(mU w.heap.size 56 2 [.slice none 0 0,.slice none 0 0]) (us 12) wz:=hf 3;obtain ⟨b4,e4,h4,q4⟩:(mU w.heap.size 3 2 [.int .i64 0,.int .i64 0]) (us 13) wz:=hf 4;obtain ⟨b5,e5,h5,q5⟩:(LJ w.heap.size) (us 14) wz:=hf 5;have e6:us 15=_:=hf 6;clear hf;simp only [e0,e1,e2,e3,e4,e5,e6];clear e0 e1 e2 e3 e4 e5 e6 us;refine aK 7 fun K hK=>?_;go_simp
 refine mK ?_;clear hK K;refine aK 8 fun K hK=>?_;go_simp
 refine mK ?_;clear hK K;refine aK 9 fun K hK=>?_;go_simp
 refine mK ?_;clear hK K;refine aR zX ?_ _;skip
 have r0:aF (wz.alloc (.cells #[.slice (some ⟨b2,0,none⟩) 2 2,.slice (some ⟨b3,0,none⟩) 2 2,.slice (some ⟨b4,0,none⟩) 2 2,.map (some b5),.pointer (some ⟨gm,0,none⟩)] 118)) wz.heap.size 118 [.slice (some ⟨b2,0,none⟩) 2 2,.slice (some ⟨b3,0,none⟩) 2 2,.slice (some ⟨b4,0,none⟩) 2 2,.map (some b5),.pointer (some ⟨gm,0,none⟩)]:=aF.alloc;have k0:aA Nil wz (wz.alloc (.cells #[.slice (some ⟨b2,0,none⟩) 2 2,.slice (some ⟨b3,0,none⟩) 2 2,.slice (some ⟨b4,0,none⟩) 2 2,.map (some b5),.pointer (some ⟨gm,0,none⟩)] 118)):=kOf;generalize wz.alloc (.cells #[.slice (some ⟨b2,0,none⟩) 2 2,.slice (some ⟨b3,0,none⟩) 2 2,.slice (some ⟨b4,0,none⟩) 2 2,.map (some b5),.pointer (some ⟨gm,0,none⟩)] 118)=wq at *
 have HH:=jJ (aI6 r0 k0 h2 h3 h4 h5);clear r0 k0 h2 h3 h4 h5;go_wp2
 go_ret
 exact⟨wz.heap.size,b2,b3,b4,b5,rfl,HH.o.1,HH.o.2.2.1.keep HH.o.2.1 id,HH.o.2.2.2.1.keep HH.o.2.1 id,HH.o.r4.1.keep HH.o.2.1 id,(HH.o.2.1.block b5 HH.o.r6 id).trans HH.o.r5.1,hkz.trans HH.o.2.1,hkz.size,q2,q3,q4,q5⟩
theorem aIB {M:Nat→Prop} {w:World} (hMB:MB M w):Calls prog 28 #[.pointer none] w fun e w'=>∃g b2 b3 b4 b5 gm,bR (fun b=>M b∨b=g∨b=b2∨b=b3∨b=b4∨b=b5) w' gm 2000 8 0 0∧w.heap.size≤gm∧e=.returned (.pointer (some ⟨g,0,none⟩))∧aF w' g 118 [.slice (some ⟨b2,0,none⟩) 2 2,.slice (some ⟨b3,0,none⟩) 2 2,.slice (some ⟨b4,0,none⟩) 2 2,.map (some b5),.pointer (some ⟨gm,0,none⟩)]∧aF w' b2 59 [.int .i64 0,.bool false,.slice none 0 0,.slice none 0 0,.bool false,.slice none 0 0,.int .i64 0,.slice none 0 0,.int .i64 1,.bool false,.slice none 0 0,.slice none 0 0,.bool false,.slice none 0 0,.int .i64 0,.slice none 0 0]∧aF w' b3 56 [.slice none 0 0,.slice none 0 0]∧aF w' b4 3 [.int .i64 0,.int .i64 0]∧w'.heap[b5]?=some (.map #[] 0)∧aA Nil w w'∧w.heap.size≤g∧w.heap.size≤b2∧w.heap.size≤b3∧w.heap.size≤b4∧w.heap.size≤b5:=by
 go_enter func28,ntmps28
 go_upto_region 3 with (go_at_call 77;refine (bAS 2000 8 w hMB zZ zZ zZ zZ).mono ?_;rintro e w1 ⟨gm,rfl,hm,hk1,hgm⟩;have HM:=jJ (aI3 hm hk1 hgm);clear hm hk1 hgm)
 refine aX 10 [7,8,9] [9,10,11,12,13,14,15,16,17,2] [9,10,11,12,13,14,15] [Un (eT ?v2_0),Un (eT ?v2_1),Un (mU w1.heap.size 59 2 [.int .i64 0,.bool false,.slice none 0 0,.slice none 0 0,.bool false,.slice none 0 0,.int .i64 0,.slice none 0 0,.int .i64 1,.bool false,.slice none 0 0,.slice none 0 0,.bool false,.slice none 0 0,.int .i64 0,.slice none 0 0]),Un (mU w1.heap.size 56 2 [.slice none 0 0,.slice none 0 0]),Un (mU w1.heap.size 3 2 [.int .i64 0,.int .i64 0]),Un (LJ w1.heap.size),Un (eT ?v2_6),nothing,nothing,nothing] (aB.sk (aB.sk (aB.sk (aB.nx ?r2_6 (aB.nx ?r2_5 (aB.nx ?r2_4 (aB.nx ?r2_3 (aB.nx ?r2_2 (aB.nx ?r2_1 (aB.nx ?r2_0 aB.zero)))))))))) ?rfn2
 case' r2_0|r2_1|r2_2|r2_3|r2_4|r2_5|r2_6=>
  intro us wj hk hp K hK;try simp only [aQ,Act.put,sL] at hK⊢
  skip
 case' r2_0|r2_1|r2_6=>
  go_simp
  refine hK.out _ _ (aA.refl _ _) ?_;exact rfl
 case' r2_2=>
  have e0:us 9=_:=hp 0;have e1:us 10=_:=hp 1;rw [e0,e1] at hK⊢;skip
  go_simp
  refine hK.out _ _ ?_ ?_
  ·exact kkA
  ·exact⟨wj.heap.size,rfl,aF.alloc,hk.size⟩
 case' r2_3|r2_4=>
  skip
  go_simp
  refine hK.out _ _ ?_ ?_
  ·exact kkA
  ·exact tC
 case' r2_5=>
  skip
  go_simp
  refine hK.out _ _ ?_ ?_
  ·exact kkA
  ·exact pV
 case' rfn2=>
 intro us wz hkz hf;simp only [aQ,Act.put,sL];have e0:us 9=_:=hf 0;have e1:us 10=_:=hf 1;obtain ⟨b2,e2,h2,q2⟩:(mU w1.heap.size 59 2 [.int .i64 0,.bool false,.slice none 0 0,.slice none 0 0,.bool false,.slice none 0 0,.int .i64 0,.slice none 0 0,.int .i64 1,.bool false,.slice none 0 0,.slice none 0 0,.bool false,.slice none 0 0,.int .i64 0,.slice none 0 0]) (us 11) wz:=hf 2;obtain ⟨b3,e3,h3,q3⟩:(mU w1.heap.size 56 2 [.slice none 0 0,.slice none 0 0]) (us 12) wz:=hf 3;obtain ⟨b4,e4,h4,q4⟩:(mU w1.heap.size 3 2 [.int .i64 0,.int .i64 0]) (us 13) wz:=hf 4;obtain ⟨b5,e5,h5,q5⟩:(LJ w1.heap.size) (us 14) wz:=hf 5;have e6:us 15=_:=hf 6;clear hf;simp only [e0,e1,e2,e3,e4,e5,e6];clear e0 e1 e2 e3 e4 e5 e6 us;refine aK 7 fun K hK=>?_;go_simp
 refine mK ?_;clear hK K;refine aK 8 fun K hK=>?_;go_simp
 refine mK ?_;clear hK K;refine aK 9 fun K hK=>?_;go_simp
 refine mK ?_;clear hK K;refine aR zX ?_ _;skip
 have r0:aF (wz.alloc (.cells #[.slice (some ⟨b2,0,none⟩) 2 2,.slice (some ⟨b3,0,none⟩) 2 2,.slice (some ⟨b4,0,none⟩) 2 2,.map (some b5),.pointer (some ⟨gm,0,none⟩)] 118)) wz.heap.size 118 [.slice (some ⟨b2,0,none⟩) 2 2,.slice (some ⟨b3,0,none⟩) 2 2,.slice (some ⟨b4,0,none⟩) 2 2,.map (some b5),.pointer (some ⟨gm,0,none⟩)]:=aF.alloc;have k0:aA Nil wz (wz.alloc (.cells #[.slice (some ⟨b2,0,none⟩) 2 2,.slice (some ⟨b3,0,none⟩) 2 2,.slice (some ⟨b4,0,none⟩) 2 2,.map (some b5),.pointer (some ⟨gm,0,none⟩)] 118)):=kOf;generalize wz.alloc (.cells #[.slice (some ⟨b2,0,none⟩) 2 2,.slice (some ⟨b3,0,none⟩) 2 2,.slice (some ⟨b4,0,none⟩) 2 2,.map (some b5),.pointer (some ⟨gm,0,none⟩)] 118)=wq at *
 have HH:=jJ (aI6 r0 k0 h2 h3 h4 h5);clear r0 k0 h2 h3 h4 h5;go_wp2
 go_ret
 have hws:=HM.o.2.1.size;exact⟨wz.heap.size,b2,b3,b4,b5,gm,HM.o.1.move (hkz.trans HH.o.2.1) (fun _ _ h=>h.elim) (fun b hb hx=>by rcases hx with hx|rfl|rfl|rfl|rfl|rfl;exact hx;exact absurd hkz.size zZ;exact absurd q2 zZ;exact absurd q3 zZ;exact absurd q4 zZ;exact absurd q5 zZ),HM.o.2.2,rfl,HH.o.1,HH.o.2.2.1.keep HH.o.2.1 id,HH.o.2.2.2.1.keep HH.o.2.1 id,HH.o.r4.1.keep HH.o.2.1 id,(HH.o.2.1.block b5 HH.o.r6 id).trans HH.o.r5.1,HM.o.2.1.trans (hkz.trans HH.o.2.1),bZ1 hws hkz.size,bZ1 hws q2,bZ1 hws q3,bZ1 hws q4,bZ1 hws q5⟩
section
variable {w:World} {E:TypeId} {g B:Nat} {rest cs:List Value} {a:Option Addr} {zs:List Int}
def fJ (z:Int):Value:=.int .i64 z
theorem bU (zs:List Int):(aO zs).flatten=zs.map fJ:=by
 induction zs with
 | nil=>rfl
 | cons a l ih=>rw [aO,dZ2,List.flatten_cons,←aO,ih];rfl
theorem aFY (h:aF w g E (zs.map fJ++rest)):«Sort».Holds (Value.int .i64) w g 0 zs.toArray:=fun j hj=>by
 simp only [List.size_toArray] at hj;refine ⟨?_,h.frozen _⟩;rw [Nat.zero_add,h.cell,List.getElem?_append_left (by simpa using hj)];simp [hj,fJ]
theorem aIV {xs ys:List Int} (h:aF w g E (xs.map fJ++rest)) (hl:ys.length=xs.length):aF («Sort».putRow (Value.int .i64) w g 0 ys.toArray) g E (ys.map fJ++rest):=by
 unfold «Sort».putRow «Sort».mapBlock aF;rw [Array.getElem?_modify,if_pos rfl,h.out];simp only [Option.map_some,«Sort».onCells,Option.some.injEq,Obj.cells.injEq,and_true];apply Array.ext';apply List.ext_getElem?;intro i;simp only [«Sort».putCells,Array.toList_mapIdx,List.getElem?_mapIdx,aZ2,true_and,Nat.zero_add,List.size_toArray,Nat.sub_zero];rcases Nat.lt_or_ge i ys.length with hi|hi
 ·rw [List.getElem?_append_left (by simpa using (by omega:i<xs.length)),List.getElem?_append_left uI];simp [hi,show i<xs.length by omega,fJ]
 ·rw [List.getElem?_append_right zV,List.getElem?_append_right zV];have h1:¬i<ys.length:=zZ;rw [hZ1,hZ1,hl];cases rest[i-xs.length]? with
  | none=>rfl
  | some v=>simp [h1];intro hx;omega
theorem aWM (h:aF w g E cs) (os:Array Obj):aF («Sort».grow w os) g E cs:=by
 unfold «Sort».grow aF;simp only;rw [Array.getElem?_append_left h.lt];exact h
theorem aMD (d:Array Int) (m:Nat) (os:Array Obj):aA (One g) w («Sort».grow («Sort».putRow (Value.int .i64) («Sort».ahead w m) g 0 d) os):=by
 unfold «Sort».grow «Sort».putRow «Sort».mapBlock «Sort».ahead;refine ⟨rfl,rfl,rfl,zW,fun k hk hn=>?_⟩;simp only;rw [Array.getElem?_append_left (by simpa using hk),Array.getElem?_modify,if_neg (fun e=>hn (show k=g from e.symm))]
theorem aLO (d:Array Int) (m:Nat):aA (One g) w («Sort».putRow (Value.int .i64) («Sort».ahead w m) g 0 d):=by
 unfold «Sort».putRow «Sort».mapBlock «Sort».ahead;refine ⟨rfl,rfl,rfl,zW,fun k hk hn=>?_⟩;simp only;rw [Array.getElem?_modify,if_neg (fun e=>hn (show k=g from e.symm))]
theorem aL.cut {sz n c k:Nat} {els:List (List Value)} (h:aL w B E sz (.slice a n c) els) (hn:els.length=n) (hk:k≤n):aL w B E sz (.slice a k c) (els.take k):=by
 have hl:(els.take k).length=k:=xV;have hs:∀c∈els.take k,c.length=sz:=fun c hc=>h.sz c (cZ3 hc);have hf:(els.take k).flatten=els.flatten.take (k*sz):=by
  have h1:els.flatten=(els.take k).flatten++(els.drop k).flatten:=by rw [←List.flatten_append,aZ3]
  have h2:=bL (els.take k) hs;rw [hl] at h2;rw [h1,List.take_left' h2]
 refine ⟨⟨by rw [bL _ hs],?_⟩,hs⟩;rw [hl];rcases h.row.2 with ⟨e,h0⟩|⟨g,cap,cur,e,hb,hg,hnc,hcm,hcs,htake⟩
 ·obtain ⟨rfl,rfl,rfl⟩:a=none∧n=0∧c=0:=by simpa using e
  obtain rfl:k=0:=zZ;exact .inl ⟨rfl,rfl⟩
 ·obtain ⟨rfl,-,rfl⟩:a=some ⟨g,0,none⟩∧n=els.length∧c=cap:=by simpa using e
  refine .inr ⟨g,c,cur,rfl,hb,hg,zZ,hcm,hcs,?_⟩;rw [hf,←htake,List.take_take,Nat.min_eq_left (Nat.mul_le_mul_right _ zZ)]
end
section
variable {zs:List Int} {w:World} {v:Value} {B:Nat}
def iO (zs:List Int):List Int:=zs.mergeSort fun x y=>decide (x≤y)
theorem FX (zs:List Int):(iO zs).length=zs.length:=List.length_mergeSort zs
theorem aEW (h:aL w B 3 1 v (aO zs)) (hl:zs.length≤1000000000) :
  Calls prog 72 #[v] w fun e w'=>e=.returned (.tuple #[])∧aL w' B 3 1 v (aO (iO zs))∧aA (Own v) w w':=by
 obtain ⟨a,c,rfl⟩:=h.isSlice;have hn:(aO zs).length=zs.length:=aJ zs;rw [hn] at h⊢;rcases Nat.eq_zero_or_pos zs.length with h0|h0
 ·exact xH
 ·exact yZ
theorem YM (zs:List Int):(Lib.compact zs).length≤zs.length:=by
 unfold Lib.compact Lib.compactUpTo;rw [hZ1];exact bZ1 (List.length_filter_le _ _) zW
theorem aAH (h:aL w B 3 1 v (aO zs)) (hl:zs.length≤1000000000) :
  Calls prog 99 #[v] w fun e w'=>∃v',e=.returned v'∧aL w' B 3 1 v' (aO (Lib.compact zs))∧v'.ownBlock=v.ownBlock∧aA (Own v) w w':=by
 obtain ⟨a,c,rfl⟩:=h.isSlice;have hn:(aO zs).length=zs.length:=aJ zs;rw [hn] at h⊢;rcases Nat.eq_zero_or_pos zs.length with h0|h0
 ·exact wK
 ·exact zQ
end
section
variable {zs:List Int} {E:TypeId} {w:World} {B c:Nat} {a:Option Addr} {cs:List Value} {y:Int}
theorem aL.raw {n:Nat} (h:aL w B E 1 (.slice a n c) (aO zs)) (hn:zs.length=n) (h0:0<n):∃g cs,a=some ⟨g,0,none⟩∧B≤g∧aF w g E cs∧c≤cs.length∧n≤c∧c≤maxLen∧cs.take n=zs.map fJ:=by
 rcases h.row.2 with ⟨e,hx⟩|⟨g,cap,cur,e,hb,hg,hnc,hcm,hcs,htake⟩
 ·rw [aJ] at hx;omega
 ·obtain ⟨rfl,-,rfl⟩:a=some ⟨g,0,none⟩∧n=(aO zs).length∧c=cap:=by simpa using e
  rw [aJ,hn] at htake hnc;rw [bU,Nat.mul_one] at htake;exact⟨g,cur.toList,rfl,hb,by unfold aF;simpa using hg,by simpa using hcs,hnc,hcm,htake⟩
theorem aL.ofRaw {g k:Nat} (hb:B≤g) (h:aF w g E cs) (hl:c≤cs.length) (hk:zs.length=k) (hc:k≤c) (hm:c≤maxLen) (ht:cs.take k=zs.map fJ):aL w B E 1 (.slice (some ⟨g,0,none⟩) k c) (aO zs):=by
 refine ⟨⟨by rw [bU,hZ1,aJ,Nat.mul_one],.inr ⟨g,c,cs.toArray,by rw [aJ,hk],hb,h,by rw [aJ,hk];exact hc,hm,sQ,?_⟩⟩,fun x hx=>by obtain ⟨z,_,rfl⟩:=iZ2.1 hx;rfl⟩;rw [aJ,hk,Nat.mul_one,bU];exact ht
theorem aF.QU {E:TypeId} {g:Nat}:∀(vs:List Value) (o:Nat) (w:World) (xs:List Value),aF w g E xs→o+vs.length≤xs.length→∃ys,aF (w.setCells g o vs) g E ys∧ys.length=xs.length∧ys.take o=xs.take o∧aA (One g) w (w.setCells g o vs)
 | [],o,w,xs,h,_=>⟨xs,h,rfl,rfl,aA.refl _ _⟩
 | v::vs,o,w,xs,h,hl=>by
  obtain ⟨ys,q1,q2,q3,q4⟩:=aF.QU vs (o+1) (w.setCell ⟨g,o,none⟩ v) (xs.set o v) (h.set o v) pR;refine ⟨ys,q1,by rw [q2];simp,?_,((aA.refl (One g) w).set1 o v).trans q4⟩;have e:(ys.take (o+1)).take o=((xs.set o v).take (o+1)).take o:=by rw [q3]
  rw [List.take_take,List.take_take,Nat.min_eq_left (Nat.le_succ o)] at e;rw [e,List.take_set_of_le (bZ2 _)]
def without (y:Int) (zs:List Int):List Int:=zs.filter fun x=>!(x==y)
theorem aAE (y:Int) (zs:List Int) (x:Int):without y (zs++[x])=if x=y then without y zs else without y zs++[x]:=by
 unfold without;rw [List.filter_append];by_cases h:x=y<;>simp [h]
theorem aAJ (h:∀j,j<zs.length→zs.getD j 0≠y):without y zs=zs:=List.filter_eq_self.2 fun x hx=>by
 obtain ⟨i,hi,rfl⟩:=jZ3 hx;have:=h i hi;simp [List.getD,hi] at this;simpa using this
end
section
variable {w:World} {zs:List Int} {gn c B:Nat} {y:Int} {rest cn:List Value} {a:Option Addr} {T:TypeId} {f v:Value}
theorem OM {x:Int} (hg:gn<w.heap.size) (h:w.cell? ⟨gn,6,none⟩=some (.int .i64 y)) :
  Calls prog 130 #[.int .i64 x,.pointer (some ⟨gn,0,none⟩)] w fun e w'=>e=.returned (.bool (x==y))∧aA Nil w w':=by
 go_enter func130,ntmps130
 go_wp2_with fail
 go_ret
 exact⟨rfl,kOf⟩
def idxOf (zs:List Int) (y:Int):Nat→Prop:=fun i=>i<zs.length∧zs.getD i 0=y∧∀j,j<i→zs.getD j 0≠y
theorem aMC {g:Nat} (hr:aF w g 3 (zs.map fJ++rest)) (hg:gn<w.heap.size) (h:w.cell? ⟨gn,6,none⟩=some (.int .i64 y)) (h1:zs.length≤c) (h2:c≤9223372036854775807) :
  Calls prog 134 #[.slice (some ⟨g,0,none⟩) zs.length c,.func (.func 130) #[] #[.pointer (some ⟨gn,0,none⟩)]] w fun e w'=>(∃r:Int,e=.returned (.int .i64 r)∧((r=-1∧∀j,j<zs.length→zs.getD j 0≠y)∨∃i:Nat,r=i∧idxOf zs y i))∧aA Nil w w':=by
 have HR:=jJ hr;have HN:=jJ h;clear hr h;generalize hn:zs.length=n at *
 have HL:=jJ hn;clear hn;go_enter func134,ntmps134
 go_wp2_with fail
 go_loopw [8] (fun i wr=>∃k:Nat,i=.int .i64 k∧k≤n∧(∀j,j<k→zs.getD j 0≠y)∧aA Nil w wr) (fun i _=>n-(intOf i).toNat)
 case atStart=>exact xW
 case round=>
  obtain ⟨k,rfl,hk,hj,hkr⟩:=hrel;have HK:=jJ (aI hj hkr);clear hj hkr;by_cases hkn:k<n
  ·have c0:wr.cell? ⟨g,k,none⟩=some (.int .i64 (zs.getD k 0)):=by
    rw [(HR.o.keep HK.o.2 id).cell,List.getElem?_append_left (by simp;rw [HL.o];exact hkn)];simp [List.getD,show k<zs.length by rw [HL.o];exact hkn,fJ]
   have hgr:g<wr.heap.size:=(HR.o.keep HK.o.2 id).lt;have hnr:gn<wr.heap.size:=cZ1 hg HK.o.2.size;obtain ⟨x,hx⟩:∃x,x=zs.getD k 0:=⟨_,rfl⟩;rw [←hx] at c0;have HX:=jJ hx;clear hx;by_cases hxy:x=y
   ·have e:(x==y)=true:=by simpa using hxy
    have HXY:=jJ hxy;clear hxy;go_wp2_with (go_at_call 130;refine (OM (w:=wr) (x:=x) hnr (HK.o.2.eY hg id HN.o)).mono ?_;rintro e w1 ⟨rfl,hk1⟩;try rw [e])
    go_ret
    have hid:idxOf zs y k:=vD;exact⟨⟨(k:Int),rfl,.inr ⟨k,rfl,hid⟩⟩,HK.o.2.trans hk1⟩
   ·have e:(x==y)=false:=by simpa using hxy
    go_wp2_with (go_at_call 130;refine (OM (w:=wr) (x:=x) hnr (HK.o.2.eY hg id HN.o)).mono ?_;rintro e w1 ⟨rfl,hk1⟩;try rw [e])
    go_roundw
    case rel=>exact oX
    case measure=>exact zI
  ·exact vG
theorem ZA:Calls prog 134 #[.slice a 0 c,f] w fun e w'=>e=.returned (.int .i64 (-1))∧aA Nil w w':=by
 go_enter func134,ntmps134
 go_wp2_with fail
 refine wp_loop_rounds 1 ?_;rw [rounds_succ];go_wp2_with fail
 go_ret
 exact⟨rfl,kOf⟩
theorem aPU (h:aL w B 3 1 v (aO zs)) (hl:zs.length≤1000000000) (hn:aF w gn T cn) (hT:(3:TypeId)≠T) (hy:cn[6]?=some (.int .i64 y)) :
  Calls prog 129 #[v,.func (.func 130) #[] #[.pointer (some ⟨gn,0,none⟩)]] w fun e w'=>∃v',e=.returned v'∧aL w' B 3 1 v' (aO (without y zs))∧v'.ownBlock=v.ownBlock∧aA (Own v) w w':=by
 obtain ⟨a,c,rfl⟩:=h.isSlice;have hnl:(aO zs).length=zs.length:=aJ zs;rw [hnl] at h⊢;rcases Nat.eq_zero_or_pos zs.length with h0|h0
 ·obtain rfl:zs=[]:=fZ1 h0;have HO:=jJ h;clear h hn hy hnl;simp only [gZ2];go_enter func129,ntmps129
  go_wp2_with (go_at_call 134;refine ZA.mono ?_;rintro e w1 ⟨rfl,hk1⟩)
  go_ret
  exact⟨_,rfl,HO.o.eO hk1,rfl,hk1.of_nil⟩
 ·have hown:=h;obtain ⟨g,cs,rfl,hb,hr,hcl,hnc,hcm,htake⟩:=h.raw rfl h0;have hne:gn≠g:=fun e=>wM;have hrow:aF w g 3 (zs.map fJ++cs.drop zs.length):=rD;have hidx:=aMC (gn:=gn) (y:=y) hrow hn.lt (by rw [hn.cell];exact hy) hnc wU;have HI:=jJ hidx;have HR:=jJ (aI8 hr hcl hcm htake hb hown hn hy);clear hidx hr hcl htake hrow h hown hn hy;generalize hzl:zs.length=n at *
  have HL:=jJ hzl;clear hzl hnl;go_enter func129,ntmps129
  go_upto_region 2 with (go_at_call 134;refine HI.o.mono ?_;rintro e w1 ⟨⟨r,rfl,hr⟩,hk1⟩;have H1:=jJ (aI hr hk1);clear hr hk1)
  rcases H1.o.1 with ⟨rfl,hno⟩|⟨i,rfl,hid⟩
  ·have HNO:=jJ hno;clear hno;go_wp2_with fail
   go_ret
   have e:without y zs=zs:=aAJ fun j hj=>HNO.o j (by rw [←HL.o];exact hj);exact⟨_,rfl,tQ,rfl,H1.o.2.of_nil⟩
  ·have hin:i<n:=by have:=hid.1;rw [HL.o] at this;exact this
   have hne1:((i:Int)==-1)=false:=zW;have hstart:without y (zs.take (i+1))=zs.take i:=by
    have h1:i<zs.length:=hid.1;rw [List.take_succ_eq_append_getElem h1,aAE,if_pos qK];refine aAJ fun j hj=>?_;have hj':j<i:=by rw [iZ1] at hj;omega
    have h2:=hid.2.2 j hj';simpa [List.getD,List.getElem?_take,hj'] using h2
   have HST:=jJ hstart;clear hid hstart;go_wp2_with fail
   go_loopw [5,6] (fun u v wr=>∃(k j:Nat) (ds:List Value),u=.int .i64 k∧v=.int .i64 j∧k<j∧j≤n∧aF wr g 3 ds∧ds.length=cs.length∧ds.take k=(without y (zs.take j)).map fJ∧(without y (zs.take j)).length=k∧(∀t,j≤t→t<n→ds[t]?=some (fJ (zs.getD t 0)))∧aA (One g) w wr) (fun _ v _=>n-(intOf v).toNat)
   case atStart=>exact oW
   case round=>
    obtain ⟨k,j,ds,rfl,rfl,hkj,hjn,hds,hdl,htk,hwl,hrest,hkr⟩:=hrel;have hnw:aF wr gn T cn:=HR.o.r6.1.keep hkr (show ¬gn=g from hne);have hgw:=hds.lt;have hnlt:=hnw.lt;by_cases hlt:j<n
    ·obtain ⟨x,hx⟩:∃x,x=zs.getD j 0:=⟨_,rfl⟩;have c0:wr.cell? ⟨g,j,none⟩=some (.int .i64 x):=by rw [hds.cell,hrest j (bZ2 _) hlt,hx];rfl
     obtain ⟨old,ho⟩:∃v0,ds[k]?=some v0:=⟨_,jZ2 (show k<ds.length by have:=HR.o.2.1;omega)⟩;have htj:zs.take (j+1)=zs.take j++[x]:=wL;have hw:=aAE y (zs.take j) x;rw [←htj] at hw;have HW:=jJ (aI9 hw hds hdl htk hwl hrest hkr hnw ho);clear hw hds hdl htk hwl hrest hkr hnw ho hx htj;by_cases hxy:x=y
     ·have e:(x==y)=true:=by simpa using hxy
      have HXY:=jJ hxy;clear hxy;go_wp2_with (go_at_call 130;refine (OM (w:=wr) (x:=x) (y:=y) hnlt (by rw [HW.o.r7.1.cell];exact HR.o.r7)).mono ?_;rintro e' w3 ⟨rfl,hk3⟩;try rw [e];have H3:=jJ hk3;clear hk3)
      go_roundw
      case rel=>exact pA
      case measure=>exact zI
     ·have e:(x==y)=false:=by simpa using hxy
      have HXY:=jJ hxy;clear hxy;go_wp2_with (go_at_call 130;refine (OM (w:=wr) (x:=x) (y:=y) hnlt (by rw [HW.o.r7.1.cell];exact HR.o.r7)).mono ?_;rintro e' w3 ⟨rfl,hk3⟩;try rw [e];have row3:=HW.o.2.1.keep hk3 id;have ck:w3.cell? ⟨g,k,none⟩=some old:=(by rw [row3.cell];exact HW.o.r8);have fk:=row3.frozen k;have H3:=jJ (aI hk3 row3);clear hk3 row3)
      go_roundw
      case rel=>exact zH
      case measure=>exact zI
    ·obtain rfl:j=n:=zZ;have htn:zs.take j=zs:=eZ1 (by rw [HL.o];omega);rw [htn] at htk hwl;have hclr:∀ty,(Builtin.clear_ #[56] ty #[.slice (some ⟨g,k,none⟩) (j-k) (c-k)]).run prog wr=.ok (.tuple #[]) (wr.setCells g k (List.replicate (j-k) (.int .i64 0))):=fun ty=>Lib.run_clear_slice (P:=prog) wr 56 3 ty (.int .i64 0) underlying56 (fun w=>zeroValue3 w) rfl rfl g k (j-k) (c-k) zZ (fun t ht=>pY) (fun t ht=>hds.frozen _);have HW:=jJ (aI5 hds hdl htk hwl hkr);clear hds hdl htk hwl hrest hkr hnw htn;have HCL:=jJ hclr;clear hclr;obtain ⟨ys,y1,y2,y3,y4⟩:=aF.QU (List.replicate (j-k) (.int .i64 0)) k wr ds HW.o.1 sC;have HY:=jJ (aI4 y1 y2 y3 y4);clear y1 y2 y3 y4;go_wp2_with fail
     rw [HCL.o];generalize wr.setCells g k (List.replicate (j-k) (.int .i64 0))=wq at *
     go_wp2
     go_ret
     refine ⟨_,rfl,aL.ofRaw HR.o.r4.1 HY.o.1 (by rw [HY.o.2.1,HW.o.2.1];exact HR.o.2.1) HW.o.2.2.2.1 zZ hcm (by rw [HY.o.2.2.1];exact HW.o.2.2.1),rfl,(HW.o.r4.trans HY.o.2.2.2).mono fun b hb=>yA⟩
end
def aP:aS:=⟨0,0,bK,0,[]⟩
structure aC where
 nodes:List aS
 free:List (List Int)
 plain:List Int
 cnt:Nat
def iU (M:Nat→Prop) (w:World) (cs:List Value) (N:aS):Prop:=∃gd ad nd cd ap np cp gk ak nk ck aq nq cq,cs=[.int .i64 N.kind,.bool gd,.slice ad nd cd,.slice ap np cp,.bool gk,.slice ak nk ck,.int .i64 N.var,.slice aq nq cq]∧jL M w gd ad nd cd ap np cp gk ak nk ck aq nq cq N
def FN (M:Nat→Prop) (w:World) (cs:List Value) (l:List Int):Prop:=∃a n c,cs=[.slice a n c]∧cE M w a n c l
theorem cE.move {M M' M2:Nat→Prop} {w w':World} {a:Option Addr} {n c:Nat} {l:List Int} (h:cE M w a n c l) (k:aA M' w w') (h1:∀b,b<w.heap.size→M' b→M b) (h2:∀b,b<w.heap.size→M2 b→M b):cE M2 w' a n c l:=eU.move h k h1 h2 fun _ _ h=>h
theorem jL.move {M M' M2:Nat→Prop} {w w':World} {gd gk:Bool} {ad ap ak aq:Option Addr} {nd cd np cp nk ck nq cq:Nat} {N:aS} (h:jL M w gd ad nd cd ap np cp gk ak nk ck aq nq cq N) (k:aA M' w w') (h1:∀b,b<w.heap.size→M' b→M b) (h2:∀b,b<w.heap.size→M2 b→M b):jL M2 w' gd ad nd cd ap np cp gk ak nk ck aq nq cq N:=
 ⟨h.d.move k h1 h2,⟨h.t.1.move k h1 h2 h1 h2,h.t.2.move k h1 h2⟩,h.kids.move k h1 h2⟩
theorem iU.move {M M' M2:Nat→Prop} {w w':World} {cs:List Value} {N:aS} (h:iU M w cs N) (k:aA M' w w') (h1:∀b,b<w.heap.size→M' b→M b) (h2:∀b,b<w.heap.size→M2 b→M b):iU M2 w' cs N:=by
 obtain ⟨gd,ad,nd,cd,ap,np,cp,gk,ak,nk,ck,aq,nq,cq,e,q⟩:=h;exact⟨gd,ad,nd,cd,ap,np,cp,gk,ak,nk,ck,aq,nq,cq,e,q.move k h1 h2⟩
theorem FN.move {M M' M2:Nat→Prop} {w w':World} {cs:List Value} {l:List Int} (h:FN M w cs l) (k:aA M' w w') (h1:∀b,b<w.heap.size→M' b→M b) (h2:∀b,b<w.heap.size→M2 b→M b):FN M2 w' cs l:=by
 obtain ⟨a,n,c,e,q⟩:=h;exact⟨a,n,c,e,q.move k h1 h2⟩
def fK (l:List aS):List Nat→Option Nat:=fun t=>(List.range l.length).find? fun i=>decide (2≤i)&&decide (bB (l.getD i aP)=t)
theorem aL.ofRow {w:World} {B b:Nat} {E:TypeId} {sz n:Nat} {els:List (List Value)} (h:aF w b E els.flatten) (hs:∀c∈els,c.length=sz) (hn:els.length=n) (hB:B≤b) (hm:n≤maxLen):aL w B E sz (.slice (some ⟨b,0,none⟩) n n) els:=by
 have hl:=bL els hs;refine ⟨⟨hl,.inr ⟨b,n,els.flatten.toArray,by rw [hn],hB,h,zZ,hm,by simp only [List.size_toArray];rw [hl,hn];exact bZ2 _,?_⟩⟩,hs⟩;rw [eZ1 (by simp only [List.toList_toArray];omega)]
theorem iU.const {M:Nat→Prop} {w:World} (k:Int):iU M w [.int .i64 k,.bool false,.slice none 0 0,.slice none 0 0,.bool false,.slice none 0 0,.int .i64 0,.slice none 0 0] ⟨k,0,bK,0,[]⟩:=⟨_,_,_,_,_,_,_,_,_,_,_,_,_,_,rfl,nR _ _,eI.zero,eU.nil⟩
theorem aDI:fK [⟨0,0,bK,0,[]⟩,⟨1,0,bK,0,[]⟩]=fun _=>none:=by
 funext t;simp [fK,List.range,List.range.loop]
def Mut (g:Nat) (vn vf vp:Value) (bm:Nat):Nat→Prop:=fun b=>b=g∨vn.ownBlock=some b∨vf.ownBlock=some b∨vp.ownBlock=some b∨b=bm
def Off (O:Nat→Prop) (g:Nat) (vn vf vp:Value) (bm:Nat):Nat→Prop:=fun b=>Mut g vn vf vp bm b∨¬O b
structure kJ (B:Nat) (O:Nat→Prop) (w:World) (g gm:Nat) (vn vf vp:Value) (bm:Nat) (ne fe:List (List Value)) (A:aC):Prop where
 row:aF w g 118 [vn,vf,vp,.map (some bm),.pointer (some ⟨gm,0,none⟩)]
 nodes:aL w B 59 8 vn ne
 free:aL w B 56 1 vf fe
 plain:aL w B 3 1 vp (aO A.plain)
 map:mO prog 9 3 w bm A.cnt (fK A.nodes)
 nl:ne.length=A.nodes.length
 fl:fe.length=A.nodes.length
 fl2:A.free.length=A.nodes.length
 pl:A.plain.length=A.nodes.length
 nr:∀i,i<A.nodes.length→iU (Off O g vn vf vp bm) w (ne.getD i []) (A.nodes.getD i aP)
 fr:∀i,i<A.nodes.length→FN (Off O g vn vf vp bm) w (fe.getD i []) (A.free.getD i [])
 mine:∀b,Mut g vn vf vp bm b→O b
 inO:∀b,O b→B≤b∧b<w.heap.size
 notM:¬O gm
theorem kJ.keep {B:Nat} {O M:Nat→Prop} {w w':World} {g gm:Nat} {vn vf vp:Value} {bm:Nat} {ne fe:List (List Value)} {A:aC} (h:kJ B O w g gm vn vf vp bm ne fe A) (k:aA M w w') (hM:∀b,M b→¬O b):kJ B O w' g gm vn vf vp bm ne fe A where
 row:=h.row.keep k fun hb=>hM g hb (h.mine g (.inl rfl))
 nodes:=h.nodes.keep k fun b hb hm=>hM b hm (h.mine b (.inr (.inl hb)))
 free:=h.free.keep k fun b hb hm=>hM b hm (h.mine b (.inr (.inr (.inl hb))))
 plain:=h.plain.keep k fun b hb hm=>hM b hm (h.mine b (.inr (.inr (.inr (.inl hb)))))
 map:=h.map.keep k fun hm=>hM bm hm (h.mine bm (.inr (.inr (.inr (.inr rfl)))))
 nl:=h.nl
 fl:=h.fl
 fl2:=h.fl2
 pl:=h.pl
 nr:=fun i hi=>(h.nr i hi).move k (fun b _ hb=>.inr (hM b hb)) fun _ _=>id
 fr:=fun i hi=>(h.fr i hi).move k (fun b _ hb=>.inr (hM b hb)) fun _ _=>id
 mine:=h.mine
 inO:=fun b hb=>⟨(h.inO b hb).1,cZ1 (h.inO b hb).2 k.size⟩
 notM:=h.notM
def gJ:aC:=⟨[⟨0,0,bK,0,[]⟩,⟨1,0,bK,0,[]⟩],[[],[]],[0,0],0⟩
theorem kJ.start {B:Nat} {w:World} {g gm b2 b3 b4 b5:Nat} (r:aF w g 118 [.slice (some ⟨b2,0,none⟩) 2 2,.slice (some ⟨b3,0,none⟩) 2 2,.slice (some ⟨b4,0,none⟩) 2 2,.map (some b5),.pointer (some ⟨gm,0,none⟩)])
  (r2:aF w b2 59 [.int .i64 0,.bool false,.slice none 0 0,.slice none 0 0,.bool false,.slice none 0 0,.int .i64 0,.slice none 0 0,.int .i64 1,.bool false,.slice none 0 0,.slice none 0 0,.bool false,.slice none 0 0,.int .i64 0,.slice none 0 0])
  (r3:aF w b3 56 [.slice none 0 0,.slice none 0 0]) (r4:aF w b4 3 [.int .i64 0,.int .i64 0]) (r5:w.heap[b5]?=some (.map #[] 0)) (h1:B≤g) (h2:B≤b2) (h3:B≤b3) (h4:B≤b4) (h5:B≤b5) (hm:gm≠g∧gm≠b2∧gm≠b3∧gm≠b4∧gm≠b5) :
  kJ B (fun b=>b=g∨b=b2∨b=b3∨b=b4∨b=b5) w g gm (.slice (some ⟨b2,0,none⟩) 2 2) (.slice (some ⟨b3,0,none⟩) 2 2) (.slice (some ⟨b4,0,none⟩) 2 2) b5 [[.int .i64 0,.bool false,.slice none 0 0,.slice none 0 0,.bool false,.slice none 0 0,.int .i64 0,.slice none 0 0],[.int .i64 1,.bool false,.slice none 0 0,.slice none 0 0,.bool false,.slice none 0 0,.int .i64 0,.slice none 0 0]] [[.slice none 0 0],[.slice none 0 0]] gJ where
 row:=r
 nodes:=aL.ofRow r2 zW rfl h2 zY
 free:=aL.ofRow r3 zW rfl h3 zY
 plain:=aL.ofRow (els:=aO [0,0]) r4 tR rfl h4 zY
 map:=by
  refine ⟨.map [],⟨#[],0,r5,⟨zW,Go.MapKept.stamped_empty 0,zW⟩,bZ2 _,rfl⟩,fun t _=>?_⟩
  rw [show fK gJ.nodes=fun _=>none from aDI]
  exact⟨rfl,fun i h=>wZ⟩
 nl:=rfl
 fl:=rfl
 fl2:=rfl
 pl:=rfl
 nr:=fun i hi=>by
  have hi':i<2:=hi
  rcases (show i=0∨i=1 by omega) with rfl|rfl
  ·exact iU.const 0
  ·exact iU.const 1
 fr:=fun i hi=>by
  have hi':i<2:=hi
  rcases (show i=0∨i=1 by omega) with rfl|rfl<;>exact⟨none,0,0,rfl,eU.nil⟩
 mine:=fun b hb=>by
  rcases hb with rfl|hb|hb|hb|rfl
  ·exact .inl rfl
  ·cases hb;exact .inr (.inl rfl)
  ·cases hb;exact .inr (.inr (.inl rfl))
  ·cases hb;exact .inr (.inr (.inr (.inl rfl)))
  ·exact .inr (.inr (.inr (.inr rfl)))
 inO:=fun b hb=>by
  rcases hb with rfl|rfl|rfl|rfl|rfl
  ·exact⟨h1,r.lt⟩
  ·exact⟨h2,r2.lt⟩
  ·exact⟨h3,r3.lt⟩
  ·exact⟨h4,r4.lt⟩
  ·exact⟨h5,(Array.getElem?_eq_some_iff.1 r5).1⟩
 notM:=fun hb=>by
  rcases hb with h|h|h|h|h
  ·exact hm.1 h
  ·exact hm.2.1 h
  ·exact hm.2.2.1 h
  ·exact hm.2.2.2.1 h
  ·exact hm.r4 h
def lH (z:Int):Bool × List Nat:=(neg z,bH z.natAbs)
theorem aQD (n:Nat):top (bH n)=eP n:=by
 rw [iN (SE n),cS];rfl
theorem aDE (limbs:Int) (zs:List Int):Go.Proofs.Q.great limbs (zs.map lH)=zs.any fun z=>decide (limbs<(eP z.natAbs:Int)):=by
 unfold Go.Proofs.Q.great;rw [List.any_map];congr 1;funext z;simp [lH,aQD]
theorem bAC {M:Nat→Prop} {w:World} {B:Nat} {E:TypeId} {v:Value} {els:List (List Value)} {zs:List Int} (h:aL w B E 2 v els) (hM:∀b,v.ownBlock=some b→¬M b) (hl:zs.length=els.length)
  (hz:∀i,i<els.length→∃g a n c,els.getD i []=[.bool g,.slice a n c]∧ZN M w g a n c (zs.getD i 0)∧eP (zs.getD i 0).natAbs*4≤140737488355328):∃a c,v=.slice a els.length c∧Ints M w a els.length c (zs.map lH):=by
 refine h.sl hM (by rw [hZ1,hl]) fun i hi=>?_;obtain ⟨g,a,n,c,e,hzn,hr⟩:=hz i hi;have hx:(zs.map lH).getD i (false,[])=lH (zs.getD i 0):=by
  have:i<zs.length:=zZ;simp [List.getD,this]
 rw [hx,e];refine ⟨a,n,c,by rw [hzn.1];rfl,hzn.2,?_⟩;have:=hzn.2.len;unfold eP at hr;omega
end Go.Proofs.Q
