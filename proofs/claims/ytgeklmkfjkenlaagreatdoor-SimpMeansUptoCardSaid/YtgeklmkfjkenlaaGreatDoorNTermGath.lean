/- What term.gathered does: a map's coefficients as a term, in its one form. -/
import Derived.Test.YtgeklmkfjkenlaaGreatDoorNVals
import Derived.Test.YtgeklmkfjkenlaaGreatDoorNSortLaid
import Derived.Shelf.SlSortCmp.NoneTotal
import Derived.OpenShut
set_option linter.unusedSimpArgs false
set_option linter.unusedVariables false
set_option maxRecDepth 100000
set_option maxHeartbeats 2000000
namespace Go.Proofs.Q
open Go.RowKit Go.Maps Tryz
section
variable {left:Lit→Bool} {C:Int→Int} {P:Program} {D:DataW Value} {Q:Exit→Act→World→Prop} {kt:TypeId} {ps:aM} {cnt b r m:Nat} {ops:Array Oper} {x n:Int} {M:Nat→Prop} {w' w:World} {o:Oper} {a:Act}
structure Coll (C:Int→Int) (left:Lit→Bool) (ps:aM):Prop where
 apart:ps.Pairwise (fun a b=>a.1≠b.1)
 mem:∀p,p∈ps↔I64' p.1∧left (.int .i64 p.1)=false∧p.2=C p.1∧p.2≠0
theorem same_i64 (a b:Int):(Lit.int .i64 a).sameKey (Lit.int .i64 b)=decide (a=b):=by
 by_cases h:a=b
 ·subst h;rw [decide_eq_true rfl];exact WideAt.sameKey_self (show WideAt.IsKeyLit (Lit.int .i64 a) from trivial)
 ·rw [decide_eq_false h];cases hs:(Lit.int .i64 a).sameKey (Lit.int .i64 b) with
  | false=>rfl
  | true=>exact absurd (by have:=WideAt.sameKey_eq hs;cases this;rfl) h
theorem Coll.start (h:∀v,I64' v→left (.int .i64 v)=false→C v=0):Coll C left []:=
 ⟨List.Pairwise.nil,fun p=>⟨fun hp=>(by cases hp),fun ⟨h1,h2,h3,h4⟩=>absurd (h3.trans (h _ h1 h2)) h4⟩⟩
theorem Coll.skip (h:Coll C left ps) (h0:C x=0):Coll C (fun z=>left z&&!z.sameKey (.int .i64 x)) ps:=by
 refine ⟨h.apart,fun p=>(h.mem p).trans ⟨fun ⟨q1,q2,q3,q4⟩=>⟨q1,by simp only [q2,Bool.false_and],q3,q4⟩,fun ⟨q1,q2,q3,q4⟩=>⟨q1,?_,q3,q4⟩⟩⟩;rw [same_i64] at q2;by_cases hx:p.1=x
 ·rw [hx,h0] at q3;exact absurd q3 q4
 ·simpa [hx] using q2
theorem Coll.snoc (h:Coll C left ps) (h0:C x≠0) (hx:I64' x) (hl:left (.int .i64 x)=true):Coll C (fun z=>left z&&!z.sameKey (.int .i64 x)) (ps++[(x,C x)]):=by
 refine ⟨List.pairwise_append.2 ⟨h.apart,by simp,fun a ha b hb e=>?_⟩,fun p=>?_⟩
 ·rw [dZ1.1 hb] at e;have:=((h.mem a).1 ha).2.1;rw [e] at this;simp only at this;rw [hl] at this;cases this
 ·rw [jZ1,dZ1,h.mem,same_i64];constructor
  ·rintro (⟨q1,q2,q3,q4⟩|rfl)
   ·exact⟨q1,by simp [q2],q3,q4⟩
   ·exact⟨hx,by simp,rfl,h0⟩
  ·rintro ⟨q1,q2,q3,q4⟩;by_cases e:p.1=x
   ·right;exact Prod.ext e (by rw [q3,e])
   ·left;exact⟨q1,by simpa [e] using q2,q3,q4⟩
theorem Coll.done {q:aM} (h:Coll C left ps) (hl:∀z,left z=false) (hC:∀v,C v≠0→I64' v) (hp:q.Perm ps) (hs:q.Pairwise (fun x y=>decide ((if y.1<x.1 then (-1:Int) else 1)<0)=false)):FormOf C q:=by
 refine ⟨?_,fun p=>?_⟩
 ·have h1:q.Pairwise (fun a b=>a.1≠b.1):=(hp.pairwise_iff (fun {_ _} hne=>Ne.symm hne)).2 h.apart;refine (hs.and h1).imp fun {a b} hab=>?_;obtain ⟨h2,h3⟩:=hab;by_cases hlt:b.1<a.1
  ·simp [hlt] at h2
  ·omega
 ·rw [hp.mem_iff,h.mem];constructor
  ·rintro ⟨_,_,q3,q4⟩;exact⟨q3,q4⟩
  ·rintro ⟨q3,q4⟩;exact⟨hC _ (by rw [←q3];exact q4),hl _,q3,q4⟩
theorem ranges_move (h:w.ranges P kt RH b r m D left cnt) (k:aA M w w') (hb:¬M b) (hr:¬M r):w'.ranges P kt RH b r m D left cnt:=by
 have h1:=h.owns.lt;have h2:=h.lt;obtain ⟨es,clock,since,seen,c0,hbb,F,hs,hD,hrr,rest⟩:=h;exact⟨es,clock,since,seen,c0,(k.block b h1 hb).trans hbb,F,hs,hD,(k.block r h2 hr).trans hrr,rest⟩
theorem ranges_keepNil (h:w.ranges P kt RH b r m D left cnt) (k:aA Nil w w'):w'.ranges P kt RH b r m D left cnt:=ranges_move h k id id
theorem i64_of_wf (h:(Lit.int .i64 n).wf=true):I64' n:=by
 simp [Lit.wf,IntKind.min,IntKind.max,IntKind.signed,IntKind.bits] at h;exact⟨by omega,by omega⟩
theorem wpList_next_zints (w:World) {rest:List Oper} (hg:o.guard=none) (it:Operand) (hop:o.op=Op.next it false) (k:TypeId) (K:Keyed P k) (hk:P.underlying k=some (.int .i64))
  (b r n:Nat) (D:DataW Value) (left:Lit→Bool) (cnt:Nat) (hit:a.eval it=.pointer (some ⟨r,0,none⟩)) (h:w.ranges P k RH b r n D left cnt)
  (hDone:(∀kl,left kl=false)→wpList P ops Q rest (a.put o.dst (.tuple #[.bool false])) w)
  (hMore:∀(x:Int) (g:Bool) (ax:Option Addr) (nx cx:Nat) (w':World) (cnt':Nat),I64' x→left (.int .i64 x)=true→(∀zd,D.atKey (.int .i64 x) zd=.held (.agg #[.bool g,.slice ax nx cx]))→w'.ranges P k RH b r n D (fun z=>left z&&!z.sameKey (.int .i64 x)) cnt'→cnt'<cnt →
   w.grownBy w' (some r)→w'.heap.size=w.heap.size→(Instr.entry (.pointer (some ⟨r,0,none⟩))).run P w'=.ok (.tuple #[.int .i64 x,.agg #[.bool g,.slice ax nx cx]]) w'→wpList P ops Q rest (a.put o.dst (.tuple #[.bool true,.int .i64 x,.agg #[.bool g,.slice ax nx cx]])) w') :
  wpList P ops Q (o::rest) a w:=
 wpList_next_ranges w hg it hop k K RH (fun x:Int=>.int .i64 x) (fun y:Bool × Option Addr × Nat × Nat=>.agg #[.bool y.1,.slice y.2.1 y.2.2.1 y.2.2.2]) (fun key kl hkey=>by obtain ⟨x,rfl,_⟩:=keyOf_int_inv hk hkey;exact⟨x,rfl⟩)
  (fun v y hv=>by obtain ⟨g,a,n,c,e,_⟩:=RH_inv hv;exact⟨(g,a,n,c),e⟩) b r n D left cnt hit h (fun _ hl=>hDone hl) fun x y kl yy w4 cnt1 hkey hlx hR hat hrg1 hlt hg1 hs1 hen=>by
   obtain ⟨gx,ax,nx,cx⟩:=y;obtain ⟨x',e,rfl,hw⟩:=keyOf_int_inv hk hkey;cases e;obtain rfl:yy=(.held (.agg #[.bool gx,.slice ax nx cx]),[]):=by
    have:=RH_mk gx ax nx cx;exact (lZ2 (this.symm.trans hR)).symm
   exact hMore x gx ax nx cx w4 cnt1 (i64_of_wf hw) hlx hat hrg1 hlt hg1 hs1 hen
end
section
variable {M:Nat→Prop} {w w1:World} {rest:List Value} {va ak:Option Addr} {xs:aM} {C:Int→Int} {gk:Bool} {z:Int}
theorem isAgg_Part (w:World):(isAgg 117).run prog w=.ok true w:=by kernel_rfl
theorem sizeOf_Part (w:World):(Go.sizeOf 117).run prog w=.ok 3 w:=by kernel_rfl
theorem info_Part:(prog.info? 117).map (fun i=>(i.zero,i.size,i.bytes))=some (some (.agg #[.int .i64 0,.bool false,.slice none 0 0]),3,40):=by kernel_rfl
theorem less1_lay {M2:Nat→Prop} {w2:World} {cx cy:List Value} {x y:Int × Int} (h:dJ M w1 cx x) (h2:dJ M2 w2 cy y) :
  Calls prog 209 #[.agg cx.toArray,.agg cy.toArray] w fun e w'=>e=.returned (.int .i64 (if x.1<y.1 then -1 else 1))∧Lays w w':=by
 obtain ⟨g,a,n,c,rfl,-,-,-⟩:=h;obtain ⟨g2,a2,n2,c2,rfl,-,-,-⟩:=h2;obtain ⟨u,hu⟩:∃u,u=x.1:=⟨_,rfl⟩;obtain ⟨v,hv⟩:∃v,v=y.1:=⟨_,rfl⟩;rw [←hu,←hv];clear hu hv;by_cases huv:u<v
 ·rw [if_pos huv];go_enter func209,ntmps209
  go_wp2_with fail
  go_ret
  exact⟨rfl,(by repeat (first|exact Lays.refl _|refine Lays.drew ?_|refine Lays.drewN ?_ _|refine Lays.alloc ?_ _))⟩
 ·rw [if_neg huv];go_enter func209,ntmps209
  go_wp2_with fail
  go_ret
  exact⟨rfl,(by repeat (first|exact Lays.refl _|refine Lays.drew ?_|refine Lays.drewN ?_ _|refine Lays.alloc ?_ _))⟩
theorem partsort_any {g c:Nat} {els:List (List Value)} (h:aC w g 117 (els.flatten++rest)) (hsz:∀c∈els,c.length=3) (hl:xs.length=els.length) (hr:∀i,i<els.length→dJ M w1 (els.getD i []) (xs.getD i (0,0))) (hn:els.length<4611686018427387904) (h0:0<els.length) :
  Calls prog 208 #[.slice (some ⟨g,0,none⟩) els.length c,.func (.func 209) #[] #[]] w fun e w'=>Sorted (dJ M w1) 3 (0,0) (fun x y=>decide ((if x.1<y.1 then (-1:Int) else 1)<0)) 117 w g xs rest e w':=by
 have eg:∀args w,(callFunc 209 args).run prog w=.ok (.enter 209 args) w:=enters_of func209 (by kernel_rfl) rfl;refine sortG_any Tryz.sortInt (by decide) isAgg_Part sizeOf_Part (cf:=fun x y:Int × Int=>if x.1<y.1 then (-1:Int) else 1) (fun x=>?_) (fun x y z=>?_) (fun x y z=>?_) eg (fun w' cx x cy y k hx hy=>less1_lay hx hy) h hsz (fun cs hc v hv=>?_) hl hr hn h0
 ·simp
 ·(repeat' split)<;>omega
 ·(repeat' split)<;>omega
 ·obtain ⟨i,hi,rfl⟩:=List.mem_iff_getElem.1 hc;have hrp:=hr i hi;rw [show els.getD i []=els[i] by simp [List.getD,jZ2 hi]] at hrp;obtain ⟨g',a',n',c',e,-⟩:=hrp;rw [e] at hv;simp at hv;rcases hv with rfl|rfl|rfl<;>rfl
def SortOwn (M:Nat→Prop) (w1 w:World) (base:Nat) (va:Option Addr) (vc:Nat) (ps:aM) (e:Ending) (w':World):Prop:=
 ∃(els':List (List Value)) (ps':aM),e=.returned (.tuple #[])∧ps'.length=els'.length∧els'.length=ps.length∧aL w' base 117 3 (.slice va els'.length vc) els'∧ps'.Perm ps∧ps'.Pairwise (fun x y=>decide ((if y.1<x.1 then (-1:Int) else 1)<0)=false)∧(∀i,i<els'.length→dJ M w1 (els'.getD i []) (ps'.getD i (0,0)))∧aA (fun b=>base≤b) w w'
theorem sort_own {base:Nat} {vc:Nat} {els:List (List Value)} (h:aL w base 117 3 (.slice va els.length vc) els) (hl:xs.length=els.length) (hr:∀i,i<els.length→dJ M w1 (els.getD i []) (xs.getD i (0,0))) (hn:els.length<4611686018427387904) :
  Calls prog 208 #[.slice va els.length vc,.func (.func 209) #[] #[]] w fun e w'=>SortOwn M w1 w base va vc xs e w':=by
 by_cases h0:els.length=0
 ·have he:els=[]:=fZ1 h0;subst he;have hx:xs=[]:=fZ1 (by simpa using hl);subst hx;refine (AnyF.slices_SortFunc_none Tryz.sortInt va vc _ w).mono ?_;rintro e w' ⟨rfl,rfl⟩;exact⟨[],[],rfl,rfl,rfl,h,List.Perm.nil,List.Pairwise.nil,(fun i hi=>by simp at hi),aA.refl _ _⟩
 ·rcases h.row.2 with ⟨e1,e2⟩|⟨g,cap,cur,e1,hb,hg,hnc,hcm,hcs,htake⟩
  ·exact absurd e2 h0
  ·cases e1
   have hfl:=bJ els h.sz;have hrow:aC w g 117 (els.flatten++cur.toList.drop els.flatten.length):=by
    unfold aC;rw [hg];congr 2;rw [←hfl] at htake;have:els.flatten++cur.toList.drop els.flatten.length=cur.toList:=by
     conv=>rhs;rw [←aZ3 els.flatten.length cur.toList]
     rw [htake]
    rw [this]
   refine (partsort_any hrow h.sz hl hr hn (by omega)).mono ?_;rintro e w' ⟨els',xs',rfl,hl',hsz',hp,hs,hrow',hr',hk⟩;have hlen:els'.length=els.length:=by rw [←hl',hp.length_eq,hl]
   have hfl':=bJ els' hsz';refine ⟨els',xs',rfl,hl',by rw [hlen,hl],⟨⟨by rw [hfl'],.inr ⟨g,vc,(els'.flatten++cur.toList.drop els.flatten.length).toArray,by rw [hlen],hb,hrow',by rw [hlen];exact hnc,hcm,?_,?_⟩⟩,hsz'⟩,hp,hs,hr',hk.mono fun b e=>by cases (show b=g from e);exact hb⟩
   ·refine bZ1 hcs ?_;simp only [List.size_toArray,aZ1,eZ3,Array.length_toList];rw [hfl',hfl,hlen];have:els.length*3≤cur.size:=bZ1 (Nat.mul_le_mul_right _ hnc) hcs;omega
   ·rw [←hfl'];simp
theorem law_int:Keyed prog 3:=int_keyed underlying3
theorem zero_Int (w:World):(zeroValue 41).run prog w=.ok zvI w:=by kernel_rfl
theorem gathered_any {b m:Nat} {nk ck:Nat} (hM:MB M w) (h:CMap prog 3 M w b m C) (hk:ZAt Nil w gk ak nk ck z) (hC:∀v,C v≠0→I64' v) (hf:∀v,nlen (C v).natAbs*4+4≤140737488355328) (hm:m≤100000000) :
  Calls prog 159 #[.map (some b),.agg #[.bool gk,.slice ak nk ck]] w fun e w'=>∃q,FormOf C q∧Gives Nil (TV M ⟨q,z⟩) w e w':=by
 obtain ⟨i1,hi1⟩:=info_parts info_Part;have HI:=jJ hi1;have HM:=jJ hM;have HK:=jJ hk;have HC:=jJ hC;have HF:=jJ hf;obtain ⟨D,hown,hD⟩:=h;have HO:=jJ hown;have HD:=jJ hD;have lb:=Live.of hown.lt;have hst:Coll C (Maps.has D) []:=Coll.start fun v hv hl=>by
  obtain ⟨g,a,n,c,e,hz⟩:=hD v hv;rw [atKey_of_not_has hl] at e;simp only [zvI,DataW.held.injEq,Value.agg.injEq,Array.mk.injEq,List.cons.injEq,Value.bool.injEq,Value.slice.injEq,and_true] at e;obtain ⟨rfl,rfl,rfl,rfl⟩:=e;have:=hz.2.len;have hn:nlen (C v).natAbs=0:=this;exact Int.natAbs_eq_zero.1 (Nat.lt_one_iff.1 (by have:=lt_pow_nlen (C v).natAbs;rw [hn] at this;simpa using this))
 clear hM hk hC hf hown hD hi1;go_enter func159,ntmps159
 go_upto_region 1 with (fail)
 have r1:=aC.alloc (w:=w.alloc (.cells #[.bool gk,.slice ak nk ck] 41)) (E:=43) (xs:=[.slice none 0 0,.bool false,.slice none 0 0]);rw [show (w.alloc (.cells #[.bool gk,.slice ak nk ck] 41)).heap.size=w.heap.size+1 by simp] at r1;have r0:=(aC.alloc (w:=w) (E:=41) (xs:=[.bool gk,.slice ak nk ck])).keep (M:=Nil) (w':=(w.alloc (.cells #[.bool gk,.slice ak nk ck] 41)).alloc (.cells #[.slice none 0 0,.bool false,.slice none 0 0] 43)) kOf id;have k0:aA Nil w ((w.alloc (.cells #[.bool gk,.slice ak nk ck] 41)).alloc (.cells #[.slice none 0 0,.bool false,.slice none 0 0] 43)):=kOf;change aC ((w.alloc (.cells #[.bool gk,.slice ak nk ck] 41)).alloc (.cells #[.slice none 0 0,.bool false,.slice none 0 0] 43)) _ _ _ at r1;generalize (w.alloc (.cells #[.bool gk,.slice ak nk ck] 41)).alloc (.cells #[.slice none 0 0,.bool false,.slice none 0 0] 43)=w0 at *
 obtain ⟨c0,c1,-,-⟩:=r0.two;have l0:=Live.of r0.lt;have l1:=Live.of r1.lt;have H0:=jJ (aI3 k0 r1 l1);clear k0 r0 r1;go_upto_region 2 with (go_at_call 116;refine (norm_any (M:=Old w0) (MB.old w0) (HK.o.keepNil H0.o.1)).mono ?_;rintro e w1 ⟨g1,a1,n1,m1,rfl,h1,hk1⟩;have H1:=jJ (aI h1 hk1);clear h1 hk1)
 have rt:=aC.alloc (w:=w1) (E:=43) (xs:=[.slice none 0 0,.bool g1,.slice a1 n1 m1]);change aC (w1.alloc (.cells #[.slice none 0 0,.bool g1,.slice a1 n1 m1] 43)) _ _ _ at rt;have hs2:(w1.alloc (.cells #[.slice none 0 0,.bool g1,.slice a1 n1 m1] 43)).heap.size=w1.heap.size+1:=by simp
 have k2:aA Nil w1 (w1.alloc (.cells #[.slice none 0 0,.bool g1,.slice a1 n1 m1] 43)):=kOf;generalize w1.alloc (.cells #[.slice none 0 0,.bool g1,.slice a1 n1 m1] 43)=w2 at *
 have hw2:aA Nil w w2:=H0.o.1.trans (H1.o.2.trans k2);have H2:=jJ (aI4 rt k2 hw2 hs2);clear rt k2 hw2 hs2 c0 c1;go_wp2_with (first|(at_range;refine wpList_range_own _ rfl _ 192 rfl 3 41 law_int underlying192 RH b m D rfl (ownsMap_move HO.o H2.o.2.2.1 id) ?_;intro w3 hrg0 hg0 hs0))
 go_frame
 have hk3:=aA.ofGrownNil hg0;have HR:=jJ (aI3 hrg0 hk3 hs0);clear hrg0 hk3 hs0 hg0;go_loopw [6] (fun _ wr=>∃(left:Lit→Bool) (cnt:Nat) (els:List (List Value)) (ps:aM) (va:Option Addr) (vc:Nat),wr.ranges prog 3 RH b w2.heap.size m D left cnt∧aC wr w1.heap.size 43 [.slice va els.length vc,.bool g1,.slice a1 n1 m1]∧aL wr w3.heap.size 117 3 (.slice va els.length vc) els∧ps.length=els.length∧(∀i,i<els.length→dJ M w (els.getD i []) (ps.getD i (0,0)))∧Coll C left ps∧ps.length+cnt≤m∧w3.heap.size≤wr.heap.size∧aA Nil w1 wr) (fun _ wr=>wr.rangeLeft b w2.heap.size)
 case atStart=>exact⟨_,_,[],[],none,0,HR.o.1,H2.o.1.keep HR.o.2.1 id,aL.nil _ _ _ _,rfl,(fun i hi=>by simp at hi),hst,by have:=HO.o.size_le;simpa using this,bZ2 _,H2.o.2.1.trans HR.o.2.1⟩
 case round=>
  obtain ⟨left,cnt,els,ps,va,vc,hrg,hrow,hown,hpl,hel,hcoll,hcm,hsz3,hkr⟩:=hrel;have lr:=Live.of hrow.lt;have HX:=jJ (aI9 hrg hrow hown hpl hel hcoll hcm hsz3 hkr);clear hrow hown hpl hel hcoll hcm hsz3 hkr;obtain ⟨t0,t1,t2⟩:=HX.o.2.1.three;have t3:=HX.o.2.1.frozen 0;have hlen:els.length<4611686018427387904:=by have:=HX.o.2.2.2.1;have:=HX.o.r6.1;omega
  have rT:=(H0.o.2.1.keep H1.o.2 id).keep HX.o.r8 id;go_wp2_with (first|(at_next;refine wpList_next_zints _ rfl _ rfl 3 law_int underlying3 b w2.heap.size m D left cnt rfl HX.o.1 (fun hl0=>?_) (fun x gx ax nx cx w4 cnt1 hkey hlx hat hrg1 hlt hg1 hs1 hen=>?_))|(go_at_call 208;refine (sort_own HX.o.2.2.1 HX.o.2.2.2.1 HX.o.r4.1 hlen).mono ?_;rintro e w5 ⟨els',ps',rfl,q1,q2,q3,q4,q5,q6,q7⟩;have y0:=q7.cellE lr.lt (by have:=H2.o.2.2.2;have:=HR.o.2.2;omega) t0;have y1:=q7.cellE lr.lt (by have:=H2.o.2.2.2;have:=HR.o.2.2;omega) t1;have y2:=q7.cellE lr.lt (by have:=H2.o.2.2.2;have:=HR.o.2.2;omega) t2;have rT5:=rT.keep q7 (by have:=H2.o.2.2.2;have:=HR.o.2.2;have:=l1.lt;have:=H1.o.2.size;omega);obtain ⟨z0,z1,z2⟩:=rT5.three;have z3:=rT5.frozen 0;have z4:=rT5.frozen 1;have z5:=rT5.frozen 2;have HQ:=jJ (aI8 q1 q2 q3 q4 q5 q6 q7 rT5);clear q1 q2 q3 q4 q5 q6 q7 rT5))
  ·have hlast:els'.length=els.length:=by rw [HQ.o.2.1,HX.o.2.2.2.1]
   have k15:aA Nil w1 w5:=HX.o.r8.trans' HQ.o.r6.1 (fun b hb=>.inr (by have:=H2.o.2.2.2;have:=HR.o.2.2;omega));have kw5:aA Nil w w5:=H0.o.1.trans (H1.o.2.trans k15);have k56:=((((aA.refl (One (w.heap.size+1)) w5).set1 0 (.slice va els.length vc)).set1 1 (.bool g1)).set1 2 (.slice a1 n1 m1));have r6:=((HQ.o.r7.set 0 (.slice va els.length vc)).set 1 (.bool g1)).set 2 (.slice a1 n1 m1);obtain ⟨x0,x1,x2⟩:=r6.three;refine bodyPost_ret (v:=.agg #[.slice va els.length vc,.bool g1,.slice a1 n1 m1]) (by simp [results,results159,go_sem,x0,x1,x2]) rfl ⟨ps',HX.o.r5.1.done hl0 HC.o HQ.o.2.2.2.1 HQ.o.r4.1,_,rfl,⟨_,_,_,_,_,_,_,rfl,?_,?_⟩,kw5.own (by omega) k56⟩
   ·have hb:=fun b (hb:(Value.slice va els'.length vc).ownBlock=some b)=>HQ.o.2.2.1.lt b hb;have hown6:=HQ.o.2.2.1.keep k56 (fun b hb' (hm:b=w.heap.size+1)=>by have:=(hb b hb').1;have:=H2.o.2.2.2;have:=HR.o.2.2;have:=l1.lt;have:=H1.o.2.size;omega);obtain ⟨a',c',e',hsl⟩:=hown6.sl (M:=M) (R:=dJ M _) (d:=(0,0)) (xs:=ps') (fun b hb' hm=>by have:=(hb b hb').1;have:=HM.o b hm;have:=H2.o.2.2.2;have:=HR.o.2.2;have:=l1.lt;have:=H1.o.2.size;omega) HQ.o.1 (fun i hi=>dJ.moves (HQ.o.r5.1 i hi) (kw5.own (by omega) k56) (fun _ _ h=>h.elim) fun _ _=>id);cases e';rw [hlast] at hsl;exact hsl
   ·exact (H1.o.1.keepNil k15).move k56 (fun b _ (hm:b=w.heap.size+1)=>by rw [hm];exact l1) (fun b hb hm=>cZ1 (HM.o b hm) H0.o.1.size)
  ·obtain ⟨gz,az,nz,cz,ez,hz⟩:=HD.o x hkey;rw [hat] at ez;simp only [DataW.held.injEq,Value.agg.injEq,Array.mk.injEq,List.cons.injEq,Value.bool.injEq,Value.slice.injEq,and_true] at ez;obtain ⟨rfl,rfl,rfl,rfl⟩:=ez;have hk4:=aA.ofGrown hg1;have e2:=H2.o.2.2.2;have e3:=HR.o.2.2;have k14:aA Nil w1 w4:=HX.o.r8.own (by omega) hk4;have kw4:aA Nil w w4:=H0.o.1.trans (H1.o.2.trans k14);have r4:=HX.o.2.1.keep hk4 (by show ¬_=_;omega);have own4:=HX.o.2.2.1.keep hk4 (fun b hb (hm:b=_)=>by have:=(HX.o.2.2.1.lt b hb).1;omega);have H4:=jJ (aI10 hrg1 hlt k14 kw4 r4 own4 hkey hlx hz hs1);obtain ⟨c0,c1,c2⟩:=r4.three;have c3:=r4.frozen 0;have l4:=Live.of r4.lt;have hfx:=HF.o x;clear hrg1 hlt k14 kw4 r4 own4 hkey hlx hz hk4 hg1 hs1 e2 e3 t0 t1 t2 t3 lr rT;by_cases h0:C x=0
   ·have hsg:∀W,aA Nil w W→Calls prog 73 #[.agg #[.bool gx,.slice ax nx cx]] W fun e w'=>e=.returned (.int .i64 0)∧aA Nil W w':=fun W k=>(sign_any ((H4.o.r8.1.zat hfx).keepNil k)).mono fun e w' ⟨he,hk⟩=>⟨by rw [he,h0];rfl,hk⟩;have HS:=jJ (aI hsg h0);clear hsg h0;go_wp2_with (go_at_call 73;refine (HS.o.1 _ (H4.o.2.2.2.1.trans kOf)).mono ?_;rintro e w6 ⟨rfl,hk6⟩)
    go_roundw
    case rel=>exact⟨_,_,els,ps,va,vc,ranges_keepNil (H4.o.1.alloc _) hk6,(H4.o.r4.1.keep (M:=Nil) (w':=w4.alloc _) kOf id).keep hk6 id,(H4.o.r5.1.keepNil (w':=w4.alloc _) kOf).keepNil hk6,HX.o.2.2.2.1,HX.o.r4.1,HX.o.r5.1.skip HS.o.2,by have:=HX.o.r6.1;have:=H4.o.2.1;omega,by have h1:=HX.o.r7.1;have h2:=H4.o.r9;have h3:=hk6.size;simp at h3;omega,(H4.o.2.2.1.trans (c:=w4.alloc _) kOf).trans hk6⟩
    case measure=>rw [(ranges_keepNil (H4.o.1.alloc _) hk6).left_eq,HX.o.1.left_eq];exact H4.o.2.1
   ·obtain ⟨sg,hsg0⟩:∃sg,sg=(C x).sign:=⟨_,rfl⟩;have hs0:¬sg=0:=fun e=>h0 (Int.sign_eq_zero_iff_zero.1 (by rw [←hsg0];exact e));have hs1:(sg==0)=false:=by simpa using hs0
    have hsg:∀W,aA Nil w W→Calls prog 73 #[.agg #[.bool gx,.slice ax nx cx]] W fun e w'=>e=.returned (.int .i64 sg)∧aA Nil W w':=fun W k=>(sign_any ((H4.o.r8.1.zat hfx).keepNil k)).mono fun e w' ⟨he,hk⟩=>⟨by rw [he,hsg0],hk⟩;have HS:=jJ (aI hsg h0);have hroom:els.length≤100000000:=by have h1:=HX.o.r6.1;have h2:=HX.o.2.2.2.1;omega
    have hs4:=H4.o.r9;have h34:=HX.o.r7.1;clear hsg h0 hsg0;go_wp2_with (first|(go_at_call 73;refine (HS.o.1 _ (H4.o.2.2.2.1.trans kOf)).mono ?_;rintro e w6 ⟨rfl,hk6⟩;have r6:=(H4.o.r4.1.keep (M:=Nil) (w':=w4.alloc _) kOf id).keep hk6 id;obtain ⟨d0,d1,d2⟩:=r6.three;have d3:=r6.frozen 0;have x6:=(aC.alloc (w:=w4) (E:=41) (xs:=[.bool gx,.slice ax nx cx])).keep hk6 id;rw [hs4] at x6;obtain ⟨b0,b1,-,-⟩:=x6.two;have lx6:=Live.of x6.lt;have l6:=Live.of r6.lt;have H6:=jJ (aI hk6 r6);clear r6 hk6 x6)|(at_builtin;refine bV _ rfl (.tmp 22) (.tmp 26) 38 rfl w3.heap.size 117 i1 (.agg #[.int .i64 0,.bool false,.slice none 0 0]) 3 40 underlying38 HI.o.1 HI.o.2.1 HI.o.2.2.1 HI.o.2.2.2 rfl (by decide) (.slice va els.length vc) els rfl (((H4.o.r5.1.keepNil (w':=w4.alloc _) kOf).keepNil H6.o.1).keepNil kOf) ⟨w6.heap.size,0,none⟩ 1 1 [[.int .i64 x,.bool gx,.slice ax nx cx]] rfl rfl (by simp) (alloc_news _ _ _) (by simp [Value.oneCell']) (by omega) (by omega) (by have h3:=H6.o.1.size;simp at h3⊢;omega) ?_;intro v' w7 ho hk7 hf7 _;obtain ⟨a7,c7,rfl⟩:=ho.isSlice;have r7:=(H6.o.2.keep (M:=Nil) (w':=w6.alloc _) kOf id).keep hk7 (fun hm=>by have:=(H4.o.r5.1.lt _ hm).1;have:=H2.o.2.2.2;have:=HR.o.2.2;omega);obtain ⟨f0,f1,f2⟩:=r7.three;have f3:=r7.frozen 0;have H7:=jJ (aI3 ho hk7 r7);clear ho hk7 hf7 r7))
    have hr7:=H7.o.2.2.set 0 (.slice a7 (els++[[Value.int .i64 x,.bool gx,.slice ax nx cx]]).length c7);have k7:aA Nil w1 w7:=((((H4.o.2.2.1.trans (c:=w4.alloc _) kOf).trans H6.o.1).trans (c:=w6.alloc _) kOf).trans' H7.o.2.1 (fun b hb=>.inr (by have:=(H4.o.r5.1.lt _ hb).1;have:=H2.o.2.2.2;have:=HR.o.2.2;omega)));have kset:=(aA.refl (One w1.heap.size) w7).set1 0 (.slice a7 (els++[[Value.int .i64 x,.bool gx,.slice ax nx cx]]).length c7);have hrgs:=ranges_move (ranges_move (ranges_keepNil (ranges_keepNil (ranges_keepNil (H4.o.1) (w':=w4.alloc (.cells #[.bool gx,.slice ax nx cx] 41)) kOf) H6.o.1) (w':=w6.alloc (.cells #[.int .i64 x,.bool gx,.slice ax nx cx] 117)) kOf) H7.o.2.1 (fun hm=>by have:=(H4.o.r5.1.lt _ hm).1;have:=lb.lt;have:=H2.o.2.2.1.size;have:=HR.o.2.2;omega) (fun hm=>by have:=(H4.o.r5.1.lt _ hm).1;have:=HR.o.2.2;omega)) kset (fun hm=>by have hm':b=w1.heap.size:=hm;have:=lb.lt;have:=H0.o.1.size;have:=H1.o.2.size;omega) (fun hm=>by have hm':w2.heap.size=w1.heap.size:=hm;have:=H2.o.2.2.2;omega);rw [show (els++[[Value.int .i64 x,.bool gx,.slice ax nx cx]]).length=els.length+1 by simp] at hr7 kset hrgs;have hown7:=H7.o.1;go_roundw
    case rel=>
     refine ⟨_,_,els++[[.int .i64 x,.bool gx,.slice ax nx cx]],ps++[(x,C x)],a7,c7,hrgs,by simpa using hr7,hown7.keep kset (fun b hb hm=>by have hm':b=w1.heap.size:=hm;have:=(hown7.lt b hb).1;have:=H2.o.2.2.2;have:=HR.o.2.2;omega),by simp [HX.o.2.2.2.1],fun i hi=>?_,HX.o.r5.1.snoc HS.o.2 H4.o.r6.1 H4.o.r7.1,by have:=HX.o.r6.1;have:=H4.o.2.1;simp;omega,by have h1:=(H6.o.1).size;have h2:=H7.o.2.1.size;simp [World.setCell] at h1 h2⊢;omega,k7.own (bZ2 _) kset⟩;rcases Nat.lt_or_ge i els.length with hi'|hi'
     ·rw [getD_snoc_lt _ _ _ hi',getD_snoc_lt _ _ _ (by rw [HX.o.2.2.2.1];exact hi')];exact HX.o.r4.1 i hi'
     ·obtain rfl:i=els.length:=by simp at hi;omega
      rw [getD_snoc_eq,←HX.o.2.2.2.1,getD_snoc_eq];exact⟨gx,ax,nx,cx,rfl,H4.o.r8.1,H4.o.r6.1.1,H4.o.r6.1.2⟩
    case measure=>
     rw [hrgs.left_eq,HX.o.1.left_eq];exact H4.o.2.1
end
end Go.Proofs.Q
