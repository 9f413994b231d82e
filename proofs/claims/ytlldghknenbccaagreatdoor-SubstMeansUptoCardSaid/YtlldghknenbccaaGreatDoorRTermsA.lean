/- What term.gathered does: a map's coefficients as a term, in its one form. -/
import Derived.Test.YtlldghknenbccaaGreatDoorRVals
import Derived.Test.YtlldghknenbccaaGreatDoorRSortLaid
import Derived.Shelf.SlSortCmp.NoneTotal
import Derived.OpenShut
import Derived.Test.YtlldghknenbccaaGreatDoorRMuls
set_option linter.unusedSimpArgs false
set_option linter.unusedVariables false
set_option maxRecDepth 100000
set_option maxHeartbeats 4000000
namespace Go.Proofs.Q
open Go.RowKit Go.Maps Tryz
section
variable {left:Lit→Bool} {C:Int→Int} {P:Program} {D:DataW Value} {Q:Exit→Act→World→Prop} {kt:TypeId} {ps:aM} {cnt b r m:Nat} {ops:Array Oper} {x n:Int} {M:Nat→Prop} {w' w:World} {o:Oper} {a:Act}
structure Coll (C:Int→Int) (left:Lit→Bool) (ps:aM):Prop where
 apart:ps.Pairwise (fun a b=>a.1≠b.1)
 mem:∀p,p∈ps↔fI p.1∧left (.int .i64 p.1)=false∧p.2=C p.1∧p.2≠0
theorem aHJ (a b:Int):(Lit.int .i64 a).sameKey (Lit.int .i64 b)=decide (a=b):=by
 by_cases h:a=b
 ·subst h;rw [decide_eq_true rfl];exact WideAt.sameKey_self (show WideAt.IsKeyLit (Lit.int .i64 a) from trivial)
 ·rw [decide_eq_false h];cases hs:(Lit.int .i64 a).sameKey (Lit.int .i64 b) with
  | false=>rfl
  | true=>exact absurd (by have:=WideAt.sameKey_eq hs;cases this;rfl) h
theorem Coll.start (h:∀v,fI v→left (.int .i64 v)=false→C v=0):Coll C left []:=
 ⟨List.Pairwise.nil,fun p=>⟨fun hp=>xC,fun ⟨h1,h2,h3,h4⟩=>absurd (h3.trans (h _ h1 h2)) h4⟩⟩
theorem Coll.skip (h:Coll C left ps) (h0:C x=0):Coll C (fun z=>left z&&!z.sameKey (.int .i64 x)) ps:=by
 refine ⟨h.apart,fun p=>(h.mem p).trans ⟨fun ⟨q1,q2,q3,q4⟩=>⟨q1,by simp only [q2,Bool.false_and],q3,q4⟩,fun ⟨q1,q2,q3,q4⟩=>⟨q1,?_,q3,q4⟩⟩⟩;rw [aHJ] at q2;by_cases hx:p.1=x
 ·rw [hx,h0] at q3;exact absurd q3 q4
 ·simpa [hx] using q2
theorem Coll.snoc (h:Coll C left ps) (h0:C x≠0) (hx:fI x) (hl:left (.int .i64 x)=true):Coll C (fun z=>left z&&!z.sameKey (.int .i64 x)) (ps++[(x,C x)]):=by
 refine ⟨List.pairwise_append.2 ⟨h.apart,zW,fun a ha b hb e=>?_⟩,fun p=>?_⟩
 ·rw [dZ1.1 hb] at e;have:=((h.mem a).1 ha).2.1;rw [e] at this;simp only at this;rw [hl] at this;cases this
 ·rw [jZ1,dZ1,h.mem,aHJ];constructor
  ·rintro (⟨q1,q2,q3,q4⟩|rfl)
   ·exact⟨q1,by simp [q2],q3,q4⟩
   ·exact⟨hx,zW,rfl,h0⟩
  ·rintro ⟨q1,q2,q3,q4⟩;by_cases e:p.1=x
   ·right;exact Prod.ext e (by rw [q3,e])
   ·left;exact⟨q1,by simpa [e] using q2,q3,q4⟩
theorem Coll.done {q:aM} (h:Coll C left ps) (hl:∀z,left z=false) (hC:∀v,C v≠0→fI v) (hp:q.Perm ps) (hs:q.Pairwise (fun x y=>decide ((if y.1<x.1 then (-1:Int) else 1)<0)=false)):mW C q:=by
 refine ⟨?_,fun p=>?_⟩
 ·have h1:q.Pairwise (fun a b=>a.1≠b.1):=(hp.pairwise_iff (fun {_ _} hne=>Ne.symm hne)).2 h.apart;refine (hs.and h1).imp fun {a b} hab=>?_;obtain ⟨h2,h3⟩:=hab;by_cases hlt:b.1<a.1
  ·simp [hlt] at h2
  ·omega
 ·rw [hp.mem_iff,h.mem];constructor
  ·rintro ⟨_,_,q3,q4⟩;exact⟨q3,q4⟩
  ·rintro ⟨q3,q4⟩;exact⟨hC _ (by rw [←q3];exact q4),hl _,q3,q4⟩
theorem TF (h:w.ranges P kt RH b r m D left cnt) (k:aA M w w') (hb:¬M b) (hr:¬M r):w'.ranges P kt RH b r m D left cnt:=by
 have h1:=h.owns.lt;have h2:=h.lt;obtain ⟨es,clock,since,seen,c0,hbb,F,hs,hD,hrr,rest⟩:=h;exact⟨es,clock,since,seen,c0,(k.block b h1 hb).trans hbb,F,hs,hD,(k.block r h2 hr).trans hrr,rest⟩
theorem JH (h:w.ranges P kt RH b r m D left cnt) (k:aA Nil w w'):w'.ranges P kt RH b r m D left cnt:=TF h k id id
theorem aVT (h:(Lit.int .i64 n).wf=true):fI n:=by
 simp [Lit.wf,IntKind.min,IntKind.max,IntKind.signed,IntKind.bits] at h;exact⟨zZ,zZ⟩
theorem aKU (w:World) {rest:List Oper} (hg:o.guard=none) (it:Operand) (hop:o.op=Op.next it false) (k:TypeId) (K:Keyed P k) (hk:P.underlying k=some (.int .i64))
  (b r n:Nat) (D:DataW Value) (left:Lit→Bool) (cnt:Nat) (hit:a.eval it=.pointer (some ⟨r,0,none⟩)) (h:w.ranges P k RH b r n D left cnt)
  (hDone:(∀kl,left kl=false)→wpList P ops Q rest (a.put o.dst (.tuple #[.bool false])) w)
  (hMore:∀(x:Int) (g:Bool) (ax:Option Addr) (nx cx:Nat) (w':World) (cnt':Nat),fI x→left (.int .i64 x)=true→(∀zd,D.atKey (.int .i64 x) zd=.held (.agg #[.bool g,.slice ax nx cx]))→w'.ranges P k RH b r n D (fun z=>left z&&!z.sameKey (.int .i64 x)) cnt'→cnt'<cnt →
   w.grownBy w' (some r)→w'.heap.size=w.heap.size→(Instr.entry (.pointer (some ⟨r,0,none⟩))).run P w'=.ok (.tuple #[.int .i64 x,.agg #[.bool g,.slice ax nx cx]]) w'→wpList P ops Q rest (a.put o.dst (.tuple #[.bool true,.int .i64 x,.agg #[.bool g,.slice ax nx cx]])) w') :
  wpList P ops Q (o::rest) a w:=
 wpList_next_ranges w hg it hop k K RH (fun x:Int=>.int .i64 x) (fun y:Bool × Option Addr × Nat × Nat=>.agg #[.bool y.1,.slice y.2.1 y.2.2.1 y.2.2.2]) (fun key kl hkey=>by obtain ⟨x,rfl,_⟩:=keyOf_int_inv hk hkey;exact⟨x,rfl⟩)
  (fun v y hv=>by obtain ⟨g,a,n,c,e,_⟩:=aJY hv;exact⟨(g,a,n,c),e⟩) b r n D left cnt hit h (fun _ hl=>hDone hl) fun x y kl yy w4 cnt1 hkey hlx hR hat hrg1 hlt hg1 hs1 hen=>by
   obtain ⟨gx,ax,nx,cx⟩:=y;obtain ⟨x',e,rfl,hw⟩:=keyOf_int_inv hk hkey;cases e;obtain rfl:yy=(.held (.agg #[.bool gx,.slice ax nx cx]),[]):=by
    have:=aKJ gx ax nx cx;exact (lZ2 (this.symm.trans hR)).symm
   exact hMore x gx ax nx cx w4 cnt1 (aVT hw) hlx hat hrg1 hlt hg1 hs1 hen
end
section
variable {M:Nat→Prop} {w w1:World} {rest:List Value} {va ak:Option Addr} {xs:aM} {C:Int→Int} {gk:Bool} {z:Int}
theorem aRB (w:World):(isAgg 96).run prog w=.ok true w:=zX
theorem aQJ (w:World):(Go.sizeOf 96).run prog w=.ok 3 w:=zX
theorem VB:(prog.info? 96).map (fun i=>(i.zero,i.size,i.bytes))=some (some (.agg #[.int .i64 0,.bool false,.slice none 0 0]),3,40):=zX
theorem aVC {M2:Nat→Prop} {w2:World} {cx cy:List Value} {x y:Int × Int} (h:dZ M w1 cx x) (h2:dZ M2 w2 cy y) :
  Calls prog 186 #[.agg cx.toArray,.agg cy.toArray] w fun e w'=>e=.returned (.int .i64 (if x.1<y.1 then -1 else 1))∧Lays w w':=by
 obtain ⟨g,a,n,c,rfl,-,-,-⟩:=h;obtain ⟨g2,a2,n2,c2,rfl,-,-,-⟩:=h2;obtain ⟨u,hu⟩:∃u,u=x.1:=⟨_,rfl⟩;obtain ⟨v,hv⟩:∃v,v=y.1:=⟨_,rfl⟩;rw [←hu,←hv];clear hu hv;by_cases huv:u<v
 ·rw [if_pos huv];go_enter func186,ntmps186
  go_wp2_with fail
  go_ret
  exact⟨rfl,zN⟩
 ·rw [if_neg huv];go_enter func186,ntmps186
  go_wp2_with fail
  go_ret
  exact⟨rfl,zN⟩
theorem aNL {g c:Nat} {els:List (List Value)} (h:aF w g 96 (els.flatten++rest)) (hsz:∀c∈els,c.length=3) (hl:xs.length=els.length) (hr:∀i,i<els.length→dZ M w1 (els.getD i []) (xs.getD i (0,0))) (hn:els.length<4611686018427387904) (h0:0<els.length) :
  Calls prog 185 #[.slice (some ⟨g,0,none⟩) els.length c,.func (.func 186) #[] #[]] w fun e w'=>Sorted (dZ M w1) 3 (0,0) (fun x y=>decide ((if x.1<y.1 then (-1:Int) else 1)<0)) 96 w g xs rest e w':=by
 have eg:∀args w,(callFunc 186 args).run prog w=.ok (.enter 186 args) w:=enters_of func186 zX rfl;refine aTM Tryz.sortInt zY aRB aQJ (cf:=fun x y:Int × Int=>if x.1<y.1 then (-1:Int) else 1) (fun x=>?_) (fun x y z=>?_) (fun x y z=>?_) eg (fun w' cx x cy y k hx hy=>aVC hx hy) h hsz (fun cs hc v hv=>?_) hl hr hn h0
 ·simp
 ·(repeat' split)<;>omega
 ·(repeat' split)<;>omega
 ·obtain ⟨i,hi,rfl⟩:=List.mem_iff_getElem.1 hc;have hrp:=hr i hi;rw [show els.getD i []=els[i] by simp [List.getD,jZ2 hi]] at hrp;obtain ⟨g',a',n',c',e,-⟩:=hrp;rw [e] at hv;simp at hv;rcases hv with rfl|rfl|rfl<;>rfl
def aZU (M:Nat→Prop) (w1 w:World) (base:Nat) (va:Option Addr) (vc:Nat) (ps:aM) (e:Ending) (w':World):Prop:=
 ∃(els':List (List Value)) (ps':aM),e=.returned (.tuple #[])∧ps'.length=els'.length∧els'.length=ps.length∧aL w' base 96 3 (.slice va els'.length vc) els'∧ps'.Perm ps∧ps'.Pairwise (fun x y=>decide ((if y.1<x.1 then (-1:Int) else 1)<0)=false)∧(∀i,i<els'.length→dZ M w1 (els'.getD i []) (ps'.getD i (0,0)))∧aA (fun b=>base≤b) w w'
theorem aXU {base:Nat} {vc:Nat} {els:List (List Value)} (h:aL w base 96 3 (.slice va els.length vc) els) (hl:xs.length=els.length) (hr:∀i,i<els.length→dZ M w1 (els.getD i []) (xs.getD i (0,0))) (hn:els.length<4611686018427387904) :
  Calls prog 185 #[.slice va els.length vc,.func (.func 186) #[] #[]] w fun e w'=>aZU M w1 w base va vc xs e w':=by
 by_cases h0:els.length=0
 ·have he:els=[]:=fZ1 h0;subst he;have hx:xs=[]:=fZ1 sQ;subst hx;refine (AnyF.slices_SortFunc_none Tryz.sortInt va vc _ w).mono ?_;rintro e w' ⟨rfl,rfl⟩;exact⟨[],[],rfl,rfl,rfl,h,List.Perm.nil,List.Pairwise.nil,(fun i hi=>pG),aA.refl _ _⟩
 ·rcases h.row.2 with ⟨e1,e2⟩|⟨g,cap,cur,e1,hb,hg,hnc,hcm,hcs,htake⟩
  ·exact absurd e2 h0
  ·cases e1
   have hfl:=bL els h.sz;have hrow:aF w g 96 (els.flatten++cur.toList.drop els.flatten.length):=by
    unfold aF;rw [hg];congr 2;rw [←hfl] at htake;have:els.flatten++cur.toList.drop els.flatten.length=cur.toList:=tV;rw [this]
   refine (aNL hrow h.sz hl hr hn zZ).mono ?_;rintro e w' ⟨els',xs',rfl,hl',hsz',hp,hs,hrow',hr',hk⟩;have hlen:els'.length=els.length:=by rw [←hl',hp.length_eq,hl]
   have hfl':=bL els' hsz';refine ⟨els',xs',rfl,hl',by rw [hlen,hl],⟨⟨by rw [hfl'],.inr ⟨g,vc,(els'.flatten++cur.toList.drop els.flatten.length).toArray,by rw [hlen],hb,hrow',by rw [hlen];exact hnc,hcm,?_,?_⟩⟩,hsz'⟩,hp,hs,hr',hk.mono fun b e=>by cases (show b=g from e);exact hb⟩
   ·refine bZ1 hcs ?_;simp only [List.size_toArray,aZ1,gZ3,Array.length_toList];rw [hfl',hfl,hlen];have:els.length*3≤cur.size:=bZ1 (Nat.mul_le_mul_right _ hnc) hcs;omega
   ·rw [←hfl'];simp
theorem aJN:Keyed prog 3:=int_keyed underlying3
theorem aIJ (w:World):(zeroValue 25).run prog w=.ok zvI w:=zX
theorem aMX {b m:Nat} {nk ck:Nat} (hM:MB M w) (h:jG prog 3 M w b m C) (hk:ZAt Nil w gk ak nk ck z) (hC:∀v,C v≠0→fI v) (hf:∀v,eP (C v).natAbs*4+4≤140737488355328) (hm:m≤100000000) :
  Calls prog 131 #[.map (some b),.agg #[.bool gk,.slice ak nk ck]] w fun e w'=>∃q,mW C q∧Gives Nil (TV M ⟨q,z⟩) w e w':=by
 obtain ⟨i1,hi1⟩:=info_parts VB;have HI:=jJ hi1;have HM:=jJ hM;have HK:=jJ hk;have HC:=jJ hC;have HF:=jJ hf;obtain ⟨D,hown,hD⟩:=h;have HO:=jJ hown;have HD:=jJ hD;have lb:=Live.of hown.lt;have hst:Coll C (Maps.has D) []:=Coll.start fun v hv hl=>by
  obtain ⟨g,a,n,c,e,hz⟩:=hD v hv;rw [atKey_of_not_has hl] at e;simp only [zvI,DataW.held.injEq,Value.agg.injEq,Array.mk.injEq,List.cons.injEq,Value.bool.injEq,Value.slice.injEq,and_true] at e;obtain ⟨rfl,rfl,rfl,rfl⟩:=e;have:=hz.2.len;have hn:eP (C v).natAbs=0:=this;exact Int.natAbs_eq_zero.1 (Nat.lt_one_iff.1 (by have:=nK (C v).natAbs;rw [hn] at this;simpa using this))
 clear hM hk hC hf hown hD hi1;go_enter func131,ntmps131
 go_upto_region 1 with (fail)
 have r1:=aF.alloc (w:=w.alloc (.cells #[.bool gk,.slice ak nk ck] 25)) (E:=27) (xs:=[.slice none 0 0,.bool false,.slice none 0 0]);rw [show (w.alloc (.cells #[.bool gk,.slice ak nk ck] 25)).heap.size=w.heap.size+1 by simp] at r1;have r0:=(aF.alloc (w:=w) (E:=25) (xs:=[.bool gk,.slice ak nk ck])).keep (M:=Nil) (w':=(w.alloc (.cells #[.bool gk,.slice ak nk ck] 25)).alloc (.cells #[.slice none 0 0,.bool false,.slice none 0 0] 27)) kOf id;have k0:aA Nil w ((w.alloc (.cells #[.bool gk,.slice ak nk ck] 25)).alloc (.cells #[.slice none 0 0,.bool false,.slice none 0 0] 27)):=kOf;change aF ((w.alloc (.cells #[.bool gk,.slice ak nk ck] 25)).alloc (.cells #[.slice none 0 0,.bool false,.slice none 0 0] 27)) _ _ _ at r1;generalize (w.alloc (.cells #[.bool gk,.slice ak nk ck] 25)).alloc (.cells #[.slice none 0 0,.bool false,.slice none 0 0] 27)=w0 at *
 obtain ⟨c0,c1,-,-⟩:=r0.two;have l0:=Live.of r0.lt;have l1:=Live.of r1.lt;have H0:=jJ (aI3 k0 r1 l1);clear k0 r0 r1;go_upto_region 2 with (go_at_call 91;refine (EX (M:=Old w0) (MB.old w0) (HK.o.eO H0.o.1)).mono ?_;rintro e w1 ⟨g1,a1,n1,m1,rfl,h1,hk1⟩;have H1:=jJ (aI h1 hk1);clear h1 hk1)
 have rt:=aF.alloc (w:=w1) (E:=27) (xs:=[.slice none 0 0,.bool g1,.slice a1 n1 m1]);change aF (w1.alloc (.cells #[.slice none 0 0,.bool g1,.slice a1 n1 m1] 27)) _ _ _ at rt;have hs2:(w1.alloc (.cells #[.slice none 0 0,.bool g1,.slice a1 n1 m1] 27)).heap.size=w1.heap.size+1:=zW;have k2:aA Nil w1 (w1.alloc (.cells #[.slice none 0 0,.bool g1,.slice a1 n1 m1] 27)):=kOf;generalize w1.alloc (.cells #[.slice none 0 0,.bool g1,.slice a1 n1 m1] 27)=w2 at *
 have hw2:aA Nil w w2:=H0.o.1.trans (H1.o.2.trans k2);have H2:=jJ (aI4 rt k2 hw2 hs2);clear rt k2 hw2 hs2 c0 c1;go_wp2_with (first|(at_range;refine wpList_range_own _ rfl _ 175 rfl 3 25 aJN underlying175 RH b m D rfl (SN HO.o H2.o.2.2.1 id) ?_;intro w3 hrg0 hg0 hs0))
 go_frame
 have hk3:=aA.aBX hg0;have HR:=jJ (aI3 hrg0 hk3 hs0);clear hrg0 hk3 hs0 hg0;go_loopw [6] (fun _ wr=>∃(left:Lit→Bool) (cnt:Nat) (els:List (List Value)) (ps:aM) (va:Option Addr) (vc:Nat),wr.ranges prog 3 RH b w2.heap.size m D left cnt∧aF wr w1.heap.size 27 [.slice va els.length vc,.bool g1,.slice a1 n1 m1]∧aL wr w3.heap.size 96 3 (.slice va els.length vc) els∧ps.length=els.length∧(∀i,i<els.length→dZ M w (els.getD i []) (ps.getD i (0,0)))∧Coll C left ps∧ps.length+cnt≤m∧w3.heap.size≤wr.heap.size∧aA Nil w1 wr) (fun _ wr=>wr.rangeLeft b w2.heap.size)
 case atStart=>exact⟨_,_,[],[],none,0,HR.o.1,H2.o.1.keep HR.o.2.1 id,aL.nil _ _ _ _,rfl,(fun i hi=>pG),hst,by have:=HO.o.size_le;simpa using this,bZ2 _,H2.o.2.1.trans HR.o.2.1⟩
 case round=>
  obtain ⟨left,cnt,els,ps,va,vc,hrg,hrow,hown,hpl,hel,hcoll,hcm,hsz3,hkr⟩:=hrel;have lr:=Live.of hrow.lt;have HX:=jJ (aI9 hrg hrow hown hpl hel hcoll hcm hsz3 hkr);clear hrow hown hpl hel hcoll hcm hsz3 hkr;obtain ⟨t0,t1,t2⟩:=HX.o.2.1.three;have t3:=HX.o.2.1.frozen 0;have hlen:els.length<4611686018427387904:=by have:=HX.o.2.2.2.1;have:=HX.o.r6.1;omega
  have rT:=(H0.o.2.1.keep H1.o.2 id).keep HX.o.r8 id;go_wp2_with (first|(at_next;refine aKU _ rfl _ rfl 3 aJN underlying3 b w2.heap.size m D left cnt rfl HX.o.1 (fun hl0=>?_) (fun x gx ax nx cx w4 cnt1 hkey hlx hat hrg1 hlt hg1 hs1 hen=>?_))|(go_at_call 185;refine (aXU HX.o.2.2.1 HX.o.2.2.2.1 HX.o.r4.1 hlen).mono ?_;rintro e w5 ⟨els',ps',rfl,q1,q2,q3,q4,q5,q6,q7⟩;have y0:=q7.eY lr.lt vU t0;have y1:=q7.eY lr.lt vU t1;have y2:=q7.eY lr.lt vU t2;have rT5:=rT.keep q7 (by have:=H2.o.2.2.2;have:=HR.o.2.2;have:=l1.lt;have:=H1.o.2.size;omega);obtain ⟨z0,z1,z2⟩:=rT5.three;have z3:=rT5.frozen 0;have z4:=rT5.frozen 1;have z5:=rT5.frozen 2;have HQ:=jJ (aI8 q1 q2 q3 q4 q5 q6 q7 rT5);clear q1 q2 q3 q4 q5 q6 q7 rT5))
  ·have hlast:els'.length=els.length:=by rw [HQ.o.2.1,HX.o.2.2.2.1]
   have k15:aA Nil w1 w5:=HX.o.r8.trans' HQ.o.r6.1 (fun b hb=>.inr vU);have kw5:aA Nil w w5:=H0.o.1.trans (H1.o.2.trans k15);have k56:=((((aA.refl (One (w.heap.size+1)) w5).set1 0 (.slice va els.length vc)).set1 1 (.bool g1)).set1 2 (.slice a1 n1 m1));have r6:=((HQ.o.r7.set 0 (.slice va els.length vc)).set 1 (.bool g1)).set 2 (.slice a1 n1 m1);obtain ⟨x0,x1,x2⟩:=r6.three;refine bodyPost_ret (v:=.agg #[.slice va els.length vc,.bool g1,.slice a1 n1 m1]) (by simp [results,results131,go_sem,x0,x1,x2]) rfl ⟨ps',HX.o.r5.1.done hl0 HC.o HQ.o.2.2.2.1 HQ.o.r4.1,_,rfl,⟨_,_,_,_,_,_,_,rfl,?_,?_⟩,kw5.own zZ k56⟩
   ·have hb:=fun b (hb:(Value.slice va els'.length vc).ownBlock=some b)=>HQ.o.2.2.1.lt b hb;have hown6:=HQ.o.2.2.1.keep k56 (fun b hb' (hm:b=w.heap.size+1)=>by have:=(hb b hb').1;have:=H2.o.2.2.2;have:=HR.o.2.2;have:=l1.lt;have:=H1.o.2.size;omega);obtain ⟨a',c',e',hsl⟩:=hown6.sl (M:=M) (R:=dZ M _) (d:=(0,0)) (xs:=ps') (fun b hb' hm=>by have:=(hb b hb').1;have:=HM.o b hm;have:=H2.o.2.2.2;have:=HR.o.2.2;have:=l1.lt;have:=H1.o.2.size;omega) HQ.o.1 (fun i hi=>dZ.moves (HQ.o.r5.1 i hi) (kw5.own zZ k56) (fun _ _ h=>h.elim) fun _ _=>id);cases e';rw [hlast] at hsl;exact hsl
   ·exact (H1.o.1.eO k15).move k56 (fun b _ (hm:b=w.heap.size+1)=>by rw [hm];exact l1) (fun b hb hm=>cZ1 (HM.o b hm) H0.o.1.size)
  ·obtain ⟨gz,az,nz,cz,ez,hz⟩:=HD.o x hkey;rw [hat] at ez;simp only [DataW.held.injEq,Value.agg.injEq,Array.mk.injEq,List.cons.injEq,Value.bool.injEq,Value.slice.injEq,and_true] at ez;obtain ⟨rfl,rfl,rfl,rfl⟩:=ez;have hk4:=aA.IL hg1;have e2:=H2.o.2.2.2;have e3:=HR.o.2.2;have k14:aA Nil w1 w4:=HX.o.r8.own zZ hk4;have kw4:aA Nil w w4:=H0.o.1.trans (H1.o.2.trans k14);have r4:=HX.o.2.1.keep hk4 (by show ¬_=_;omega);have own4:=HX.o.2.2.1.keep hk4 (fun b hb (hm:b=_)=>by have:=(HX.o.2.2.1.lt b hb).1;omega);have H4:=jJ (FU hrg1 hlt k14 kw4 r4 own4 hkey hlx hz hs1);obtain ⟨c0,c1,c2⟩:=r4.three;have c3:=r4.frozen 0;have l4:=Live.of r4.lt;have hfx:=HF.o x;clear hrg1 hlt k14 kw4 r4 own4 hkey hlx hz hk4 hg1 hs1 e2 e3 t0 t1 t2 t3 lr rT;by_cases h0:C x=0
   ·have hsg:∀W,aA Nil w W→Calls prog 55 #[.agg #[.bool gx,.slice ax nx cx]] W fun e w'=>e=.returned (.int .i64 0)∧aA Nil W w':=fun W k=>(kY ((H4.o.r8.1.zat hfx).eO k)).mono fun e w' ⟨he,hk⟩=>⟨by rw [he,h0];rfl,hk⟩;have HS:=jJ (aI hsg h0);clear hsg h0;go_wp2_with (go_at_call 55;refine (HS.o.1 _ (H4.o.2.2.2.1.trans kOf)).mono ?_;rintro e w6 ⟨rfl,hk6⟩)
    go_roundw
    case rel=>exact⟨_,_,els,ps,va,vc,JH (H4.o.1.alloc _) hk6,(H4.o.r4.1.keep (M:=Nil) (w':=w4.alloc _) kOf id).keep hk6 id,(H4.o.r5.1.eO (w':=w4.alloc _) kOf).eO hk6,HX.o.2.2.2.1,HX.o.r4.1,HX.o.r5.1.skip HS.o.2,by have:=HX.o.r6.1;have:=H4.o.2.1;omega,by have h1:=HX.o.r7.1;have h2:=H4.o.r9;have h3:=hk6.size;simp at h3;omega,(H4.o.2.2.1.trans (c:=w4.alloc _) kOf).trans hk6⟩
    case measure=>rw [(JH (H4.o.1.alloc _) hk6).left_eq,HX.o.1.left_eq];exact H4.o.2.1
   ·obtain ⟨sg,hsg0⟩:∃sg,sg=(C x).sign:=⟨_,rfl⟩;have hs0:¬sg=0:=fun e=>h0 (Int.sign_eq_zero_iff_zero.1 (by rw [←hsg0];exact e));have hs1:(sg==0)=false:=by simpa using hs0
    have hsg:∀W,aA Nil w W→Calls prog 55 #[.agg #[.bool gx,.slice ax nx cx]] W fun e w'=>e=.returned (.int .i64 sg)∧aA Nil W w':=fun W k=>(kY ((H4.o.r8.1.zat hfx).eO k)).mono fun e w' ⟨he,hk⟩=>⟨by rw [he,hsg0],hk⟩;have HS:=jJ (aI hsg h0);have hroom:els.length≤100000000:=by have h1:=HX.o.r6.1;have h2:=HX.o.2.2.2.1;omega
    have hs4:=H4.o.r9;have h34:=HX.o.r7.1;clear hsg h0 hsg0;go_wp2_with (first|(go_at_call 55;refine (HS.o.1 _ (H4.o.2.2.2.1.trans kOf)).mono ?_;rintro e w6 ⟨rfl,hk6⟩;have r6:=(H4.o.r4.1.keep (M:=Nil) (w':=w4.alloc _) kOf id).keep hk6 id;obtain ⟨d0,d1,d2⟩:=r6.three;have d3:=r6.frozen 0;have x6:=(aF.alloc (w:=w4) (E:=25) (xs:=[.bool gx,.slice ax nx cx])).keep hk6 id;rw [hs4] at x6;obtain ⟨b0,b1,-,-⟩:=x6.two;have lx6:=Live.of x6.lt;have l6:=Live.of r6.lt;have H6:=jJ (aI hk6 r6);clear r6 hk6 x6)|(at_builtin;refine bY _ rfl (.tmp 22) (.tmp 26) 22 rfl w3.heap.size 96 i1 (.agg #[.int .i64 0,.bool false,.slice none 0 0]) 3 40 underlying22 HI.o.1 HI.o.2.1 HI.o.2.2.1 HI.o.2.2.2 rfl zY (.slice va els.length vc) els rfl (((H4.o.r5.1.eO (w':=w4.alloc _) kOf).eO H6.o.1).eO kOf) ⟨w6.heap.size,0,none⟩ 1 1 [[.int .i64 x,.bool gx,.slice ax nx cx]] rfl rfl zW (EI _ _ _) yO zZ zZ (by have h3:=H6.o.1.size;simp at h3⊢;omega) ?_;intro v' w7 ho hk7 hf7 _;obtain ⟨a7,c7,rfl⟩:=ho.isSlice;have r7:=(H6.o.2.keep (M:=Nil) (w':=w6.alloc _) kOf id).keep hk7 (fun hm=>by have:=(H4.o.r5.1.lt _ hm).1;have:=H2.o.2.2.2;have:=HR.o.2.2;omega);obtain ⟨f0,f1,f2⟩:=r7.three;have f3:=r7.frozen 0;have H7:=jJ (aI3 ho hk7 r7);clear ho hk7 hf7 r7))
    have hr7:=H7.o.2.2.set 0 (.slice a7 (els++[[Value.int .i64 x,.bool gx,.slice ax nx cx]]).length c7);have k7:aA Nil w1 w7:=((((H4.o.2.2.1.trans (c:=w4.alloc _) kOf).trans H6.o.1).trans (c:=w6.alloc _) kOf).trans' H7.o.2.1 (fun b hb=>.inr (by have:=(H4.o.r5.1.lt _ hb).1;have:=H2.o.2.2.2;have:=HR.o.2.2;omega)));have kset:=(aA.refl (One w1.heap.size) w7).set1 0 (.slice a7 (els++[[Value.int .i64 x,.bool gx,.slice ax nx cx]]).length c7);have hrgs:=TF (TF (JH (JH (JH (H4.o.1) (w':=w4.alloc (.cells #[.bool gx,.slice ax nx cx] 25)) kOf) H6.o.1) (w':=w6.alloc (.cells #[.int .i64 x,.bool gx,.slice ax nx cx] 96)) kOf) H7.o.2.1 (fun hm=>by have:=(H4.o.r5.1.lt _ hm).1;have:=lb.lt;have:=H2.o.2.2.1.size;have:=HR.o.2.2;omega) (fun hm=>by have:=(H4.o.r5.1.lt _ hm).1;have:=HR.o.2.2;omega)) kset (fun hm=>by have hm':b=w1.heap.size:=hm;have:=lb.lt;have:=H0.o.1.size;have:=H1.o.2.size;omega) (fun hm=>by have hm':w2.heap.size=w1.heap.size:=hm;have:=H2.o.2.2.2;omega);rw [show (els++[[Value.int .i64 x,.bool gx,.slice ax nx cx]]).length=els.length+1 by simp] at hr7 kset hrgs;have hown7:=H7.o.1;go_roundw
    case rel=>
     refine ⟨_,_,els++[[.int .i64 x,.bool gx,.slice ax nx cx]],ps++[(x,C x)],a7,c7,hrgs,by simpa using hr7,hown7.keep kset (fun b hb hm=>by have hm':b=w1.heap.size:=hm;have:=(hown7.lt b hb).1;have:=H2.o.2.2.2;have:=HR.o.2.2;omega),by simp [HX.o.2.2.2.1],fun i hi=>?_,HX.o.r5.1.snoc HS.o.2 H4.o.r6.1 H4.o.r7.1,by have:=HX.o.r6.1;have:=H4.o.2.1;simp;omega,by have h1:=(H6.o.1).size;have h2:=H7.o.2.1.size;simp [World.setCell] at h1 h2⊢;omega,k7.own (bZ2 _) kset⟩;rcases Nat.lt_or_ge i els.length with hi'|hi'
     ·rw [EF _ _ _ hi',EF _ _ _ (by rw [HX.o.2.2.2.1];exact hi')];exact HX.o.r4.1 i hi'
     ·obtain rfl:i=els.length:=by simp at hi;omega
      rw [DF,←HX.o.2.2.2.1,DF];exact⟨gx,ax,nx,cx,rfl,H4.o.r8.1,H4.o.r6.1.1,H4.o.r6.1.2⟩
    case measure=>
     rw [hrgs.left_eq,HX.o.1.left_eq];exact H4.o.2.1
end
section
variable {w:World} {M:Nat→Prop} {l:aM} {a:Option Addr} {x v:Int} {P:Program} {kt:TypeId} {b L i:Nat}
def gU (x:Int) (a:aV) (y:Int) (b:aV):aV:=⟨dR (mulL x a.parts++mulL y b.parts),x*a.k+y*b.k⟩
theorem NY (h:∀p∈l,eP p.2.natAbs≤L) (hx:eP x.natAbs≤L) (hl:l.length≤16777216) (v:Int):eP (x*bD l v).natAbs≤2*L+1:=by
 have h1:∀p∈l,p.2.natAbs≤Bs ^ L:=fun p hp=>Nat.le_of_lt (cZ1 (nK _) (Nat.pow_le_pow_right iI (h p hp)));have h2:=VW l h1 v;have h3:x.natAbs<Bs ^ L:=cZ1 (nK _) (Nat.pow_le_pow_right iI hx);refine dD ?_;rw [Int.natAbs_mul]
 calc x.natAbs*(bD l v).natAbs≤x.natAbs*(l.length*Bs ^ L):=Nat.mul_le_mul_left _ h2
  _≤x.natAbs*(16777216*Bs ^ L):=Nat.mul_le_mul_left _ (Nat.mul_le_mul_right _ hl)
  _<Bs ^ L*(Bs*Bs ^ L):=by
   refine Nat.lt_of_le_of_lt (Nat.mul_le_mul_left _ (Nat.mul_le_mul_right _ (show 16777216≤Bs by decide))) ?_;exact Nat.mul_lt_mul_of_pos_right h3 (Nat.mul_pos iI (Nat.pow_pos iI))
  _=Bs ^ (2*L+1):=by rw [←Nat.mul_assoc,Nat.mul_comm _ Bs,Nat.mul_assoc,←Nat.pow_add,Nat.mul_comm Bs,←Nat.pow_succ];congr 1;omega
theorem YV (l:aM) (h:i<l.length) (v:Int):bD (l.take (i+1)) v=bD (l.take i) v+(if (pth l i).1=v then (pth l i).2 else 0):=by
 rw [List.take_succ_eq_append_getElem h,aCJ,iR h]
theorem aFG (h:∀p∈l,fI p.1) (hv:bD l v≠0):fI v:=by
 obtain ⟨p,hp,rfl⟩:=CO hv;exact h p hp
theorem jG.congr {m:Nat} {C C':Int→Int} (h:jG P kt M w b m C) (e:∀v,C v=C' v):jG P kt M w b m C':=by
 obtain rfl:C=C':=funext e;exact h
theorem MB.gY {x:World} (h:x.heap.size≤w.heap.size):MB (Old x) w:=fun _ hb=>cZ1 hb h
theorem bI.mem {M':Nat→Prop} {n c:Nat} (h:bI M' M w a n c l):∀p∈l,eP p.2.natAbs≤1073741824∧fI p.1:=fun p hp=>by
 obtain ⟨i,hi,rfl⟩:=List.mem_iff_getElem.1 hp;obtain ⟨_,_,g,a',n',c',_,_,_,_,_,_,hz,hn,h1,h2⟩:=h.at (i:=i) (by have:=eU.len h;omega);rw [iR hi] at hz h1 h2;exact⟨bZ1 hz.iD hn,h1,h2⟩
theorem BF {y:Int} {a:Nat} (h1:eP x.natAbs≤a) (h2:eP y.natAbs≤b):eP (x*y).natAbs≤a+b:=by
 rw [Int.natAbs_mul];exact bZ1 (aIQ _ _) (Nat.add_le_add h1 h2)
end
theorem LC {M M1 M2 M3 M4:Nat→Prop} {w:World} {gk gl ga gb:Bool} {ak al aa ab ap bp:Option Addr} {nk ck nl cl na ca nb cb np cp mp dp:Nat} {x y za zb:Int} {la lb:aM} (hM:MB M w) (hk:ZAt Nil w gk ak nk ck x) (hl:ZAt Nil w gl al nl cl y)
  (ha:bI M1 M2 w ap np cp la) (hb:bI M3 M4 w bp mp dp lb) (hza:ZAt Nil w ga aa na ca za) (hzb:ZAt Nil w gb ab nb cb zb) (h1:nk≤1073741824) (h2:nl≤1073741824) (h3:na≤1073741824) (h4:nb≤1073741824) (h5:np≤16777216) (h6:mp≤16777216) :
  Calls prog 90 #[.agg #[.bool gk,.slice ak nk ck],.agg #[.slice ap np cp,.bool ga,.slice aa na ca],.agg #[.bool gl,.slice al nl cl],.agg #[.slice bp mp dp,.bool gb,.slice ab nb cb]] w fun e w'=>Gives Nil (TV M (gU x ⟨la,za⟩ y ⟨lb,zb⟩)) w e w':=by
 have hlen:=eU.len ha;have hlen2:=eU.len hb;have HA:=jJ (aI4 ha hza h5 hlen);have HB:=jJ (aI4 hb hzb h6 hlen2);have HK:=jJ (aI hk h1);have HL:=jJ (aI hl h2);have HZ:=jJ (aI h3 h4);have HM:=jJ hM;have hmm:=@run_makeMap prog;clear ha hb hza hzb hk hl hM h1 h2 h3 h4 hlen hlen2;go_enter func90,ntmps90
 go_upto_region 1 with (fail)
 have r0:=(aF.alloc (w:=w) (E:=25) (xs:=[.bool gk,.slice ak nk ck])).keep (M:=Nil) (w':=(((((w.alloc (.cells #[.bool gk,.slice ak nk ck] 25)).alloc (.cells #[.slice ap np cp,.bool ga,.slice aa na ca] 27)).alloc (.cells #[.bool gl,.slice al nl cl] 25)).alloc (.cells #[.slice bp mp dp,.bool gb,.slice ab nb cb] 27)).alloc (.cells #[.slice none 0 0,.bool false,.slice none 0 0] 27))) kOf id;have r1:=(aF.alloc (w:=(w.alloc (.cells #[.bool gk,.slice ak nk ck] 25))) (E:=27) (xs:=[.slice ap np cp,.bool ga,.slice aa na ca])).keep (M:=Nil) (w':=(((((w.alloc (.cells #[.bool gk,.slice ak nk ck] 25)).alloc (.cells #[.slice ap np cp,.bool ga,.slice aa na ca] 27)).alloc (.cells #[.bool gl,.slice al nl cl] 25)).alloc (.cells #[.slice bp mp dp,.bool gb,.slice ab nb cb] 27)).alloc (.cells #[.slice none 0 0,.bool false,.slice none 0 0] 27))) kOf id;rw [show (w.alloc (.cells #[.bool gk,.slice ak nk ck] 25)).heap.size=w.heap.size+1 by simp] at r1;have r2:=(aF.alloc (w:=((w.alloc (.cells #[.bool gk,.slice ak nk ck] 25)).alloc (.cells #[.slice ap np cp,.bool ga,.slice aa na ca] 27))) (E:=25) (xs:=[.bool gl,.slice al nl cl])).keep (M:=Nil) (w':=(((((w.alloc (.cells #[.bool gk,.slice ak nk ck] 25)).alloc (.cells #[.slice ap np cp,.bool ga,.slice aa na ca] 27)).alloc (.cells #[.bool gl,.slice al nl cl] 25)).alloc (.cells #[.slice bp mp dp,.bool gb,.slice ab nb cb] 27)).alloc (.cells #[.slice none 0 0,.bool false,.slice none 0 0] 27))) kOf id;rw [show ((w.alloc (.cells #[.bool gk,.slice ak nk ck] 25)).alloc (.cells #[.slice ap np cp,.bool ga,.slice aa na ca] 27)).heap.size=w.heap.size+1+1 by simp] at r2;have r3:=(aF.alloc (w:=(((w.alloc (.cells #[.bool gk,.slice ak nk ck] 25)).alloc (.cells #[.slice ap np cp,.bool ga,.slice aa na ca] 27)).alloc (.cells #[.bool gl,.slice al nl cl] 25))) (E:=27) (xs:=[.slice bp mp dp,.bool gb,.slice ab nb cb])).keep (M:=Nil) (w':=(((((w.alloc (.cells #[.bool gk,.slice ak nk ck] 25)).alloc (.cells #[.slice ap np cp,.bool ga,.slice aa na ca] 27)).alloc (.cells #[.bool gl,.slice al nl cl] 25)).alloc (.cells #[.slice bp mp dp,.bool gb,.slice ab nb cb] 27)).alloc (.cells #[.slice none 0 0,.bool false,.slice none 0 0] 27))) kOf id;rw [show (((w.alloc (.cells #[.bool gk,.slice ak nk ck] 25)).alloc (.cells #[.slice ap np cp,.bool ga,.slice aa na ca] 27)).alloc (.cells #[.bool gl,.slice al nl cl] 25)).heap.size=w.heap.size+1+1+1 by simp] at r3;have r4:=aF.alloc (w:=((((w.alloc (.cells #[.bool gk,.slice ak nk ck] 25)).alloc (.cells #[.slice ap np cp,.bool ga,.slice aa na ca] 27)).alloc (.cells #[.bool gl,.slice al nl cl] 25)).alloc (.cells #[.slice bp mp dp,.bool gb,.slice ab nb cb] 27))) (E:=27) (xs:=[.slice none 0 0,.bool false,.slice none 0 0]);change aF (((((w.alloc (.cells #[.bool gk,.slice ak nk ck] 25)).alloc (.cells #[.slice ap np cp,.bool ga,.slice aa na ca] 27)).alloc (.cells #[.bool gl,.slice al nl cl] 25)).alloc (.cells #[.slice bp mp dp,.bool gb,.slice ab nb cb] 27)).alloc (.cells #[.slice none 0 0,.bool false,.slice none 0 0] 27)) _ _ _ at r4;rw [show ((((w.alloc (.cells #[.bool gk,.slice ak nk ck] 25)).alloc (.cells #[.slice ap np cp,.bool ga,.slice aa na ca] 27)).alloc (.cells #[.bool gl,.slice al nl cl] 25)).alloc (.cells #[.slice bp mp dp,.bool gb,.slice ab nb cb] 27)).heap.size=w.heap.size+1+1+1+1 by simp] at r4;have k0:aA Nil w (((((w.alloc (.cells #[.bool gk,.slice ak nk ck] 25)).alloc (.cells #[.slice ap np cp,.bool ga,.slice aa na ca] 27)).alloc (.cells #[.bool gl,.slice al nl cl] 25)).alloc (.cells #[.slice bp mp dp,.bool gb,.slice ab nb cb] 27)).alloc (.cells #[.slice none 0 0,.bool false,.slice none 0 0] 27)):=kOf;generalize (((((w.alloc (.cells #[.bool gk,.slice ak nk ck] 25)).alloc (.cells #[.slice ap np cp,.bool ga,.slice aa na ca] 27)).alloc (.cells #[.bool gl,.slice al nl cl] 25)).alloc (.cells #[.slice bp mp dp,.bool gb,.slice ab nb cb] 27)).alloc (.cells #[.slice none 0 0,.bool false,.slice none 0 0] 27))=w0 at *
 have lr4:=r4.lt;have H0:=jJ (aI6 k0 r0 r1 r2 r3 r4);clear k0 r0 r1 r2 r3 r4;go_upto_region 2 with fail
 have hcm0:=jG.made (P:=prog) (kt:=3) (Old (w0.alloc (.map #[] 0))) w0;have k01:aA Nil w0 (w0.alloc (.map #[] 0)):=kOf;have hsz1:(w0.alloc (.map #[] 0)).heap.size=w0.heap.size+1:=zW;generalize w0.alloc (.map #[] 0)=w1 at *
 have H1:=jJ (aI3 hcm0 k01 hsz1);clear hcm0 k01 hsz1;obtain ⟨c10,c11,c12⟩:=(H0.o.2.2.1.keep H1.o.2.1 id).three;go_wp2_with fail
 clear c10 c11 c12;have hcap:=eU.cap HA.o.1;have hle:=eU.le HA.o.1;go_loopw [18] (fun iv wr=>∃k:Nat,k≤np∧iv=.int .i64 (k:Int)∧jG prog 3 (Old w1) wr w0.heap.size k (fun v=>x*bD (la.take k) v)∧aA Nil w0 wr∧w1.heap.size≤wr.heap.size) (fun iv _=>np-(intOf iv).toNat)
 case atStart=>exact⟨0,aZ2 _,rfl,H1.o.1.congr (fun v=>by simp [bD]),H1.o.2.1,bZ2 _⟩
 case round=>
  obtain ⟨k,hk,rfl,hcm,hkr,hsr⟩:=hrel;by_cases hlt:k<np
  ·have j0:(0:Int)≤(k:Int):=zZ;have j1:(k:Int)<(np:Int):=zZ;obtain ⟨b,off,g,a',n',c',hae,hb,-,x0,x1,x2,hz,hn',i1,i2⟩:=(HA.o.1.eO (H0.o.1.trans hkr)).at hlt;subst hae;have hs:=YV la (i:=k) (by have:=HA.o.2.2.2;omega);generalize pth la k=p at *
   obtain ⟨v,c⟩:=p;have hkb:aA Nil wr (wr.alloc (.cells #[.int .i64 v,.bool g,.slice a' n' c'] 96)):=kOf;have rp:=aF.alloc (w:=wr) (E:=96) (xs:=[.int .i64 v,.bool g,.slice a' n' c']);change aF (wr.alloc (.cells #[.int .i64 v,.bool g,.slice a' n' c'] 96)) _ _ _ at rp;have HC:=jJ (aI6 hcm hkr hsr hz hn' hs);clear hcm hkr hsr hz hn' hs;go_upto_region 5 with (fail)
   generalize wr.alloc (.cells #[.int .i64 v,.bool g,.slice a' n' c'] 96)=wb at *
   obtain ⟨gl1,al1,nl1,cl1,hzl,hlook⟩:=(HC.o.1.eO hkb).look (t:=175) (e:=25) underlying3 underlying175 aIJ (v:=v) ⟨i1,i2⟩;have hx:eP x.natAbs≤1073741824:=bZ1 HK.o.1.iD HK.o.2;have hall:=HA.o.1.mem;have hroom:=NY (l:=la.take k) (fun p hp=>(hall p (cZ3 hp)).1) hx (by rw [iZ1];have:=HA.o.2.2.1;omega) v;have hroomc:=BF hx (bZ1 HC.o.2.2.2.1.iD HC.o.r4.1);have hnl:=hzl.len;have HD:=jJ (aI7 rp hkb hlook hzl (show eP (x*bD (la.take k) v).natAbs≤2147483649 from hroom) hroomc hnl);clear rp hkb hlook hzl hx hall hroom hroomc hnl;refine aX 13 [12] [22,23,24,25,26,27,28,29,30,31,32,33,1045] [22,23,24,25,26,27,28,29,30,31,32,33] [Un (eT ?v1_0),Un (eT ?v1_1),Un (eT ?v1_2),Un (eT ?v1_3),Un (eT ?v1_4),Un (eT ?v1_5),Un (eT ?v1_6),Un (eT ?v1_7),Un (eT ?v1_8),Un (eT ?v1_9),Un (ZV Nil (x*c)),Un (ZV (Old w1) (x*bD (la.take k) v+x*c)),nothing] (aB.sk (aB.nx ?r1_11 (aB.nx ?r1_10 (aB.nx ?r1_9 (aB.nx ?r1_8 (aB.nx ?r1_7 (aB.nx ?r1_6 (aB.nx ?r1_5 (aB.nx ?r1_4 (aB.nx ?r1_3 (aB.nx ?r1_2 (aB.nx ?r1_1 (aB.nx ?r1_0 aB.zero))))))))))))) ?rfn1
   case' r1_0|r1_1|r1_2|r1_3|r1_4|r1_5|r1_6|r1_7|r1_8|r1_9|r1_10|r1_11=>
    intro us wj hk hp K hK;try simp only [aQ,Act.put,sL] at hK⊢
    obtain ⟨d0,d1,d2⟩:=(HD.o.1.keep hk id).three;obtain ⟨e0',e1',-,-⟩:=(((H0.o.2.1.keep HC.o.2.1 id).keep HD.o.2.1 id).keep hk id).two;have hlk:=HD.o.2.2.1 _ hk
   case' r1_0|r1_1|r1_3|r1_4|r1_7|r1_8=>
    go_simp
    refine hK.out _ _ (aA.refl _ _) ?_;exact rfl
   case' r1_2=>
    have e1:us 23=_:=hp 1;rw [e1] at hK⊢;go_simp
    refine hK.out _ _ (aA.refl _ _) ?_;exact rfl
   case' r1_5=>
    have e4:us 26=_:=hp 4;rw [e4] at hK⊢;go_simp
    refine hK.out _ _ (aA.refl _ _) ?_;exact rfl
   case' r1_6=>
    have e3:us 25=_:=hp 3;have e5:us 27=_:=hp 5;rw [e3,e5] at hK⊢;go_simp
    refine hK.out _ _ (aA.refl _ _) ?_;exact rfl
   case' r1_9=>
    have e8:us 30=_:=hp 8;rw [e8] at hK⊢;go_simp
    refine hK.out _ _ (aA.refl _ _) ?_;exact rfl
   case' r1_10=>
    have e7:us 29=_:=hp 7;have e9:us 31=_:=hp 9;rw [e7,e9] at hK⊢;go_simp
    refine (KV (M:=Nil) (MB.nil _) (HK.o.1.eO (H0.o.1.trans (HC.o.2.1.trans (HD.o.2.1.trans hk)))) (HC.o.2.2.2.1.gK.eO (HD.o.2.1.trans hk)) (by have:=HK.o.2;have:=HC.o.r4.1;omega)).mono ?_;rintro e wk ⟨g,a,n,c,rfl,h,hk2⟩;exact hK.out _ _ hk2 (⟨g,a,n,c,rfl,h⟩)
   case' r1_11=>
    have e6:us 28=_:=hp 6;obtain ⟨g10,a10,n10,c10,e10,h10⟩:(ZV Nil (x*c)) (us 32) wj:=hp 10;rw [e6,e10] at hK⊢;go_simp
    refine (CP (M:=Old w1) (MB.gY (bZ1 HC.o.2.2.1 (HD.o.2.1.trans hk).size)) ((HD.o.2.2.2.1.zat (by have:=HD.o.r4.1;omega)).eO hk) (h10.zat pO) (by have:=HD.o.r4.1;have:=HD.o.r6;omega) rP).mono ?_;rintro e wk ⟨g,a,n,c,rfl,h,hk2⟩;exact hK.out _ _ hk2 (⟨g,a,n,c,rfl,h⟩)
   case' rfn1=>
   intro us wz hkz hf;simp only [aQ,Act.put,sL];have e0:us 22=_:=hf 0;have e1:us 23=_:=hf 1;have e2:us 24=_:=hf 2;have e3:us 25=_:=hf 3;have e4:us 26=_:=hf 4;have e5:us 27=_:=hf 5;have e6:us 28=_:=hf 6;have e7:us 29=_:=hf 7;have e8:us 30=_:=hf 8;have e9:us 31=_:=hf 9;obtain ⟨g10,a10,n10,c10,e10,h10⟩:(ZV Nil (x*c)) (us 32) wz:=hf 10;obtain ⟨g11,a11,n11,c11,e11,h11⟩:(ZV (Old w1) (x*bD (la.take k) v+x*c)) (us 33) wz:=hf 11;clear hf;simp only [e0,e1,e2,e3,e4,e5,e6,e7,e8,e9,e10,e11];clear e0 e1 e2 e3 e4 e5 e6 e7 e8 e9 e10 e11 us;refine aK 12 fun K hK=>?_;obtain ⟨w9,hrun,hcm9,hk9⟩:=jG.put (t:=175) (e:=25) ((HC.o.1.eO HD.o.2.1).eO hkz) underlying3 underlying175 (v:=v) ⟨i1,i2⟩ vB (show w0.heap.size<w1.heap.size by have:=H1.o.2.2;omega) h11;go_simp
   refine mK ?_;clear hK K;refine aR zX ?_ _;have H9:=jJ (aI3 hcm9 hk9 hkz);clear hcm9 hk9 hkz hrun;go_wp2_with fail
   go_roundw
   case rel=>exact⟨k+1,zZ,zF,H9.o.1.congr (fun u=>by rw [HC.o.r5 u];dsimp only;by_cases e:v=u<;>simp [e,Int.mul_add]),(HC.o.2.1.trans (HD.o.2.1.trans H9.o.2.2)).own (bZ2 _) H9.o.2.1,bZ1 HC.o.2.2.1 (bZ1 (HD.o.2.1.trans H9.o.2.2).size H9.o.2.1.size)⟩
   case measure=>exact zI
  ·have ekn:np=k:=zZ;subst ekn;rw [eZ1 (by have:=HA.o.2.2.2;omega)] at hcm;have hx:eP x.natAbs≤1073741824:=bZ1 HK.o.1.iD HK.o.2;have hy:eP y.natAbs≤1073741824:=bZ1 HL.o.1.iD HL.o.2;have hall:=HA.o.1.mem;have hall2:=HB.o.1.mem;have hroom1:=NY (l:=la) (fun p hp=>(hall p hp).1) hx (by have:=HA.o.2.2;omega);have HC:=jJ (aI8 hcm hkr hsr hx hy hall hall2 hroom1);obtain ⟨c10,c11,c12⟩:=(H0.o.r4.1.keep hkr id).three;have hcapb:=eU.cap HB.o.1;have hleb:=eU.le HB.o.1;clear hcm hkr hsr hx hy hall hall2 hroom1 hcap hle hlt hk;go_wp2_with fail
   clear c10 c11 c12;rename World=>wq;go_loopw [38] (fun iv wr=>∃k:Nat,k≤mp∧iv=.int .i64 (k:Int)∧jG prog 3 (Old w1) wr w0.heap.size (np+k) (fun v=>x*bD la v+y*bD (lb.take k) v)∧aA Nil w0 wr∧w1.heap.size≤wr.heap.size) (fun iv _=>mp-(intOf iv).toNat)
   case atStart=>exact⟨0,aZ2 _,rfl,HC.o.1.congr (fun v=>by simp [bD]),HC.o.2.1,HC.o.2.2.1⟩
   case round=>
    obtain ⟨k,hk,rfl,hcm,hkr,hsr⟩:=hrel;by_cases hlt:k<mp
    ·have j0:(0:Int)≤(k:Int):=zZ;have j1:(k:Int)<(mp:Int):=zZ;obtain ⟨b,off,g,a',n',c',hae,hb,-,x0,x1,x2,hz,hn',i1,i2⟩:=(HB.o.1.eO (H0.o.1.trans hkr)).at hlt;subst hae;have hs:=YV lb (i:=k) (by have:=HB.o.2.2.2;omega);generalize pth lb k=p at *
     obtain ⟨v,c⟩:=p;have hkb:aA Nil wr (wr.alloc (.cells #[.int .i64 v,.bool g,.slice a' n' c'] 96)):=kOf;have rp:=aF.alloc (w:=wr) (E:=96) (xs:=[.int .i64 v,.bool g,.slice a' n' c']);change aF (wr.alloc (.cells #[.int .i64 v,.bool g,.slice a' n' c'] 96)) _ _ _ at rp;have HE:=jJ (aI6 hcm hkr hsr hz hn' hs);clear hcm hkr hsr hz hn' hs;go_upto_region 10 with (fail)
     generalize wr.alloc (.cells #[.int .i64 v,.bool g,.slice a' n' c'] 96)=wb at *
     obtain ⟨gl1,al1,nl1,cl1,hzl,hlook⟩:=(HE.o.1.eO hkb).look (t:=175) (e:=25) underlying3 underlying175 aIJ (v:=v) ⟨i1,i2⟩;have hroom:=NY (l:=lb.take k) (fun p hp=>(HC.o.r6.1 p (cZ3 hp)).1) HC.o.r4.1 (by rw [iZ1];have:=HB.o.2.2.1;omega) v;have hroom2:=bZ1 (dK (x*bD la v) (y*bD (lb.take k) v)) (show _≤2147483650 by have:=HC.o.r7 v;omega);have hroomc:=BF HC.o.r4.1 (bZ1 HE.o.2.2.2.1.iD HE.o.r4.1);have hnl:=hzl.len;have HD:=jJ (aI7 rp hkb hlook hzl hroom2 hroomc hnl);clear rp hkb hlook hzl hroom hroom2 hroomc hnl;refine aX 13 [12] [42,43,44,45,46,47,48,49,50,51,52,53,1065] [42,43,44,45,46,47,48,49,50,51,52,53] [Un (eT ?v2_0),Un (eT ?v2_1),Un (eT ?v2_2),Un (eT ?v2_3),Un (eT ?v2_4),Un (eT ?v2_5),Un (eT ?v2_6),Un (eT ?v2_7),Un (eT ?v2_8),Un (eT ?v2_9),Un (ZV Nil (y*c)),Un (ZV (Old w1) (x*bD la v+y*bD (lb.take k) v+y*c)),nothing] (aB.sk (aB.nx ?r2_11 (aB.nx ?r2_10 (aB.nx ?r2_9 (aB.nx ?r2_8 (aB.nx ?r2_7 (aB.nx ?r2_6 (aB.nx ?r2_5 (aB.nx ?r2_4 (aB.nx ?r2_3 (aB.nx ?r2_2 (aB.nx ?r2_1 (aB.nx ?r2_0 aB.zero))))))))))))) ?rfn2
     case' r2_0|r2_1|r2_2|r2_3|r2_4|r2_5|r2_6|r2_7|r2_8|r2_9|r2_10|r2_11=>
      intro us wj hk hp K hK;try simp only [aQ,Act.put,sL] at hK⊢
      obtain ⟨d0,d1,d2⟩:=(HD.o.1.keep hk id).three;obtain ⟨e0',e1',-,-⟩:=(((H0.o.2.2.2.1.keep HE.o.2.1 id).keep HD.o.2.1 id).keep hk id).two;have hlk:=HD.o.2.2.1 _ hk
     case' r2_0|r2_1|r2_3|r2_4|r2_7|r2_8=>
      go_simp
      refine hK.out _ _ (aA.refl _ _) ?_;exact rfl
     case' r2_2=>
      have e1:us 43=_:=hp 1;rw [e1] at hK⊢;go_simp
      refine hK.out _ _ (aA.refl _ _) ?_;exact rfl
     case' r2_5=>
      have e4:us 46=_:=hp 4;rw [e4] at hK⊢;go_simp
      refine hK.out _ _ (aA.refl _ _) ?_;exact rfl
     case' r2_6=>
      have e3:us 45=_:=hp 3;have e5:us 47=_:=hp 5;rw [e3,e5] at hK⊢;go_simp
      refine hK.out _ _ (aA.refl _ _) ?_;exact rfl
     case' r2_9=>
      have e8:us 50=_:=hp 8;rw [e8] at hK⊢;go_simp
      refine hK.out _ _ (aA.refl _ _) ?_;exact rfl
     case' r2_10=>
      have e7:us 49=_:=hp 7;have e9:us 51=_:=hp 9;rw [e7,e9] at hK⊢;go_simp
      refine (KV (M:=Nil) (MB.nil _) (HL.o.1.eO (H0.o.1.trans (HE.o.2.1.trans (HD.o.2.1.trans hk)))) (HE.o.2.2.2.1.gK.eO (HD.o.2.1.trans hk)) (by have:=HL.o.2;have:=HE.o.r4.1;omega)).mono ?_;rintro e wk ⟨g,a,n,c,rfl,h,hk2⟩;exact hK.out _ _ hk2 (⟨g,a,n,c,rfl,h⟩)
     case' r2_11=>
      have e6:us 48=_:=hp 6;obtain ⟨g10,a10,n10,c10,e10,h10⟩:(ZV Nil (y*c)) (us 52) wj:=hp 10;rw [e6,e10] at hK⊢;go_simp
      refine (CP (M:=Old w1) (MB.gY (bZ1 HE.o.2.2.1 (HD.o.2.1.trans hk).size)) ((HD.o.2.2.2.1.zat (by have:=HD.o.r4.1;omega)).eO hk) (h10.zat pO) (by have:=HD.o.r4.1;have:=HD.o.r6;omega) rP).mono ?_;rintro e wk ⟨g,a,n,c,rfl,h,hk2⟩;exact hK.out _ _ hk2 (⟨g,a,n,c,rfl,h⟩)
     case' rfn2=>
     intro us wz hkz hf;simp only [aQ,Act.put,sL];have e0:us 42=_:=hf 0;have e1:us 43=_:=hf 1;have e2:us 44=_:=hf 2;have e3:us 45=_:=hf 3;have e4:us 46=_:=hf 4;have e5:us 47=_:=hf 5;have e6:us 48=_:=hf 6;have e7:us 49=_:=hf 7;have e8:us 50=_:=hf 8;have e9:us 51=_:=hf 9;obtain ⟨g10,a10,n10,c10,e10,h10⟩:(ZV Nil (y*c)) (us 52) wz:=hf 10;obtain ⟨g11,a11,n11,c11,e11,h11⟩:(ZV (Old w1) (x*bD la v+y*bD (lb.take k) v+y*c)) (us 53) wz:=hf 11;clear hf;simp only [e0,e1,e2,e3,e4,e5,e6,e7,e8,e9,e10,e11];clear e0 e1 e2 e3 e4 e5 e6 e7 e8 e9 e10 e11 us;refine aK 12 fun K hK=>?_;obtain ⟨w9,hrun,hcm9,hk9⟩:=jG.put (t:=175) (e:=25) ((HE.o.1.eO HD.o.2.1).eO hkz) underlying3 underlying175 (v:=v) ⟨i1,i2⟩ pF (show w0.heap.size<w1.heap.size by have:=H1.o.2.2;omega) h11;go_simp
     refine mK ?_;clear hK K;refine aR zX ?_ _;have H9:=jJ (aI3 hcm9 hk9 hkz);clear hcm9 hk9 hkz hrun;go_wp2_with fail
     go_roundw
     case rel=>exact⟨k+1,zZ,zF,H9.o.1.congr (fun u=>by rw [HE.o.r5 u];dsimp only;by_cases e:v=u<;>simp [e,Int.mul_add,Int.add_assoc]),(HE.o.2.1.trans (HD.o.2.1.trans H9.o.2.2)).own (bZ2 _) H9.o.2.1,bZ1 HE.o.2.2.1 (bZ1 (HD.o.2.1.trans H9.o.2.2).size H9.o.2.1.size)⟩
     case measure=>exact zI
    ·have ekn:mp=k:=zZ;subst ekn;rw [eZ1 (by have:=HB.o.2.2.2;omega)] at hcm;have HE:=jJ (aI3 hcm hkr hsr);clear hcm hkr hsr;have hn4:=BF HC.o.2.2.2.1 (bZ1 HA.o.2.1.iD HZ.o.1);have hn8:=BF HC.o.r4.1 (bZ1 HB.o.2.1.iD HZ.o.2);have hn9:=dK (x*za) (y*zb);have hroom2:=NY (l:=lb) (fun p hp=>(HC.o.r6.1 p hp).1) HC.o.r4.1 (by have:=HB.o.2.2;omega);have hn10:∀v,eP (x*bD la v+y*bD lb v).natAbs*4+4≤140737488355328:=fun v=>by
      have q1:=dK (x*bD la v) (y*bD lb v);have q2:=HC.o.r7 v;have q3:=hroom2 v;omega
     have hi64:∀v,x*bD la v+y*bD lb v≠0→fI v:=fun v hv=>by
      by_cases e1:bD la v=0
      ·by_cases e2:bD lb v=0
       ·rw [e1,e2] at hv;simp at hv
       ·exact aFG (fun p hp=>(HC.o.r6.1 p hp).2) e2
      ·exact aFG (fun p hp=>(HC.o.r5.1 p hp).2) e1
     have HX:=jJ (aI5 hn4 hn8 (show eP (x*za+y*zb).natAbs≤2147483649 by omega) hi64 hn10);clear hn4 hn8 hn9 hn10 hroom2 hi64;go_upto_region 12 with (fail)
     refine aX 12 [11] [55,56,57,58,59,60,61,62,63,64,65,1076] [55,56,57,58,59,60,61,62,63,64,65] [Un (eT ?v3_0),Un (eT ?v3_1),Un (eT ?v3_2),Un (eT ?v3_3),Un (ZV Nil (x*za)),Un (eT ?v3_5),Un (eT ?v3_6),Un (eT ?v3_7),Un (ZV Nil (y*zb)),Un (ZV Nil (x*za+y*zb)),Un (TV (Old w1) (gU x ⟨la,za⟩ y ⟨lb,zb⟩)),nothing] (aB.sk (aB.nx ?r3_10 (aB.nx ?r3_9 (aB.nx ?r3_8 (aB.nx ?r3_7 (aB.nx ?r3_6 (aB.nx ?r3_5 (aB.nx ?r3_4 (aB.nx ?r3_3 (aB.nx ?r3_2 (aB.nx ?r3_1 (aB.nx ?r3_0 aB.zero)))))))))))) ?rfn3
     case' r3_0|r3_1|r3_2|r3_3|r3_4|r3_5|r3_6|r3_7|r3_8|r3_9|r3_10=>
      intro us wj hk hp K hK;try simp only [aQ,Act.put,sL] at hK⊢
      obtain ⟨d0,d1,-,-⟩:=((H0.o.2.1.keep HE.o.2.1 id).keep hk id).two;obtain ⟨e00,e01,e02⟩:=((H0.o.2.2.1.keep HE.o.2.1 id).keep hk id).three;obtain ⟨f00,f01,-,-⟩:=((H0.o.2.2.2.1.keep HE.o.2.1 id).keep hk id).two;obtain ⟨g00,g01,g02⟩:=((H0.o.r4.1.keep HE.o.2.1 id).keep hk id).three
     case' r3_0|r3_1|r3_2|r3_5|r3_6=>
      go_simp
      refine hK.out _ _ (aA.refl _ _) ?_;exact rfl
     case' r3_3=>
      have e2:us 57=_:=hp 2;rw [e2] at hK⊢;go_simp
      refine hK.out _ _ (aA.refl _ _) ?_;exact rfl
     case' r3_4=>
      have e1:us 56=_:=hp 1;have e3:us 58=_:=hp 3;rw [e1,e3] at hK⊢;go_simp
      refine (KV (M:=Nil) (MB.nil _) (HK.o.1.eO (H0.o.1.trans (HE.o.2.1.trans hk))) (HA.o.2.1.eO (H0.o.1.trans (HE.o.2.1.trans hk))) (by have:=HK.o.2;have:=HZ.o.1;omega)).mono ?_;rintro e wk ⟨g,a,n,c,rfl,h,hk2⟩;exact hK.out _ _ hk2 (⟨g,a,n,c,rfl,h⟩)
     case' r3_7=>
      have e6:us 61=_:=hp 6;rw [e6] at hK⊢;go_simp
      refine hK.out _ _ (aA.refl _ _) ?_;exact rfl
     case' r3_8=>
      have e5:us 60=_:=hp 5;have e7:us 62=_:=hp 7;rw [e5,e7] at hK⊢;go_simp
      refine (KV (M:=Nil) (MB.nil _) (HL.o.1.eO (H0.o.1.trans (HE.o.2.1.trans hk))) (HB.o.2.1.eO (H0.o.1.trans (HE.o.2.1.trans hk))) (by have:=HL.o.2;have:=HZ.o.2;omega)).mono ?_;rintro e wk ⟨g,a,n,c,rfl,h,hk2⟩;exact hK.out _ _ hk2 (⟨g,a,n,c,rfl,h⟩)
     case' r3_9=>
      obtain ⟨g4,a4,n4,c4,e4,h4⟩:(ZV Nil (x*za)) (us 59) wj:=hp 4;obtain ⟨g8,a8,n8,c8,e8,h8⟩:(ZV Nil (y*zb)) (us 63) wj:=hp 8;rw [e4,e8] at hK⊢;go_simp
      refine (CP (M:=Nil) (MB.nil _) (h4.zat (by have:=HX.o.1;omega)) (h8.zat (by have:=HX.o.2.1;omega)) (by have:=HX.o.1;have:=h4.len;omega) (by have:=HX.o.2.1;have:=h8.len;omega)).mono ?_;rintro e wk ⟨g,a,n,c,rfl,h,hk2⟩;exact hK.out _ _ hk2 (⟨g,a,n,c,rfl,h⟩)
     case' r3_10=>
      have e0:us 55=_:=hp 0;obtain ⟨g9,a9,n9,c9,e9,h9⟩:(ZV Nil (x*za+y*zb)) (us 64) wj:=hp 9;rw [e0,e9] at hK⊢;go_simp
      refine (aMX (M:=Old w1) (m:=np+mp) (C:=fun v=>x*bD la v+y*bD lb v) (MB.gY (bZ1 HE.o.2.2 hk.size)) (HE.o.1.eO hk) (h9.zat (by have:=HX.o.2.2.1;omega)) HX.o.2.2.2.1 HX.o.r4 pF).mono ?_;rintro e wk ⟨q,hq,v,rfl,hv,hk2⟩;exact hK.out _ _ hk2 ((by have e:q=dR (mulL x la++mulL y lb):=mW.eq (by have e0:(fun v=>x*bD la v+y*bD lb v)=bD (mulL x la++mulL y lb):=funext (fun v=>(by rw [SK,OD,OD]));rw [←e0];exact hq);rw [e] at hv;exact hv))
     case' rfn3=>
     intro us wz hkz hf;simp only [aQ,Act.put,sL];have e0:us 55=_:=hf 0;have e1:us 56=_:=hf 1;have e2:us 57=_:=hf 2;have e3:us 58=_:=hf 3;obtain ⟨g4,a4,n4,c4,e4,h4⟩:(ZV Nil (x*za)) (us 59) wz:=hf 4;have e5:us 60=_:=hf 5;have e6:us 61=_:=hf 6;have e7:us 62=_:=hf 7;obtain ⟨g8,a8,n8,c8,e8,h8⟩:(ZV Nil (y*zb)) (us 63) wz:=hf 8;obtain ⟨g9,a9,n9,c9,e9,h9⟩:(ZV Nil (x*za+y*zb)) (us 64) wz:=hf 9;obtain ⟨ap10,np10,cp10,gk10,ak10,nk10,ck10,e10,h10⟩:(TV (Old w1) (gU x ⟨la,za⟩ y ⟨lb,zb⟩)) (us 65) wz:=hf 10;clear hf;simp only [e0,e1,e2,e3,e4,e5,e6,e7,e8,e9,e10];clear e0 e1 e2 e3 e4 e5 e6 e7 e8 e9 e10 us;refine aK 11 fun K hK=>?_;obtain ⟨z0,z1,z2⟩:=((H0.o.r5.keep HE.o.2.1 id).keep hkz id).three;have z3:=((H0.o.r5.keep HE.o.2.1 id).keep hkz id).frozen 0;have z4:=((H0.o.r5.keep HE.o.2.1 id).keep hkz id).frozen 1;have z5:=((H0.o.r5.keep HE.o.2.1 id).keep hkz id).frozen 2;go_simp
     refine mK ?_;clear hK K;refine aR zX ?_ _;go_wp2_with fail
     have r6:=((((H0.o.r5.keep HE.o.2.1 id).keep hkz id).set 0 (.slice ap10 np10 cp10)).set 1 (.bool gk10)).set 2 (.slice ak10 nk10 ck10);have ks:=((((aA.refl (One (w.heap.size+1+1+1+1)) wz).set1 0 (.slice ap10 np10 cp10)).set1 1 (.bool gk10)).set1 2 (.slice ak10 nk10 ck10));obtain ⟨y0,y1,y2⟩:=r6.three;have hlo:w.heap.size+1+1+1+1<w1.heap.size:=cZ1 lr4 H1.o.2.1.size;refine bodyPost_ret (v:=.agg #[.slice ap10 np10 cp10,.bool gk10,.slice ak10 nk10 ck10]) (by simp [results,results90,go_sem,y0,y1,y2]) rfl ⟨_,rfl,⟨_,_,_,_,_,_,_,rfl,h10.1.move ks (fun b _ (hm:b=_)=>by rw [hm];exact hlo) (fun b _ hm=>?hB) (fun b _ (hm:b=_)=>by rw [hm];exact hlo) (fun b _ hm=>?hB2),h10.2.move ks (fun b _ (hm:b=_)=>by rw [hm];exact hlo) (fun b _ hm=>?hB3)⟩,(H0.o.1.trans (HE.o.2.1.trans hkz)).own zZ ks⟩;all_goals (have:=HM.o b hm;show b<w1.heap.size;omega)
end Go.Proofs.Q
