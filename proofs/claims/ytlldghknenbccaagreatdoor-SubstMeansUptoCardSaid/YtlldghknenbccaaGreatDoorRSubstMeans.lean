/- The statement SubstMeans (its card): for every input of bulk at most 1048576 the law returns true, and each argument reads behind the call as it read before. The card ties the library's tables to the program's text. No condition of ours. -/
import Derived.Test.YtlldghknenbccaaGreatDoorCards
import Derived.Test.YtlldghknenbccaaGreatDoorTie
import Derived.Deep.DeepHandedRow
import Derived.Test.YtlldghknenbccaaGreatDoorRGoneB
namespace Go.Proofs.YtlldghknenbccaaGreatDoor.substMeans
open Go.Proofs.Q
open Go.ChangeShapes Go.WideShapes Go.ChangeAt Go.RowKit Go.Proofs.Q
set_option linter.unusedVariables false
theorem own:ownKnob Tryz.prog.godebug=none:=by kernel_rfl
theorem laidOut:laidOutB Tryz.prog=true:=by kernel_rfl
set_option maxRecDepth 100000 in
theorem contract (H:Type) (enc:TypeId × Value→H) (W:World) (base:Nat) (args:Array Value) (ds gs:List (DataW H)) (before:List MemPlace)
  (hval0:∀(j:Nat) t v,Tryz.f7.params[j]?=some t→args[j]?=some v→Value.okWide Tryz.prog W .any base t v)
  (hW:DataW.Whole enc Tryz.prog Tryz.f7.params.toList Rows.substMeansSpec.vars false W args.toList ds gs before) (hL:laidMetH Tryz.prog Rows.substMeansUptoRow.laid W) (hbulk:Rows.uptoBulkAll (ds++gs)≤1048576) :
  Calls Tryz.prog 7 args W fun e W'=>∃v,e=.returned v∧Rows.substMeansSpec.post enc Tryz.prog Tryz.f7 false true false false W args v W':=by
 have hval:∀(j:Nat) t v,Tryz.f7.params[j]?=some t→args[j]?=some v→Value.okWide Tryz.prog W .any base t v:=hval0
 have hW':=hW
 obtain ⟨p,q,hA0,hV,rfl,hfz,hnd⟩:=hW
 have hA:DataW.TrodAll enc Tryz.prog W 0 (fun _=>true) true Tryz.f7.params.toList args.toList ds p:=hA0
 rw [Tryz.params7] at hA hval
 obtain ⟨v0,vs0,d0,ds0,p0,q0,hargs,rfl,rfl,h0,r0⟩:=trodAll_cons hA
 obtain ⟨v1,vs1,d1,ds1,p1,q1,rfl,rfl,rfl,h1,r1⟩:=trodAll_cons r0
 obtain ⟨v2,vs2,d2,ds2,p2,q2,rfl,rfl,rfl,h2,r2⟩:=trodAll_cons r1
 obtain ⟨v3,vs3,d3,ds3,p3,q3,rfl,rfl,rfl,h3,r3⟩:=trodAll_cons r2
 obtain ⟨v4,vs4,d4,ds4,p4,q4,rfl,rfl,rfl,h4,r4⟩:=trodAll_cons r3
 obtain ⟨rfl,rfl,rfl⟩:=trodAll_nil r4
 obtain rfl:args=#[v0,v1,v2,v3,v4]:=by cases args;simp_all
 obtain ⟨rfl,rfl⟩:=trodVars_none hV
 simp only [List.append_nil,Rows.uptoBulkAll] at hbulk
 have k0:=h0
 have lt0:∀x∈p0,x.block<W.heap.size:=by obtain ⟨m,hm⟩:=k0;exact DataW.trod_lt m _ _ _ hm
 obtain ⟨a0,n0,c0,rfl⟩:=okWide_slice Tryz.underlying39 (hval 0 39 v0 rfl rfl)
 obtain ⟨fuel0,hf0⟩:=h0
 obtain ⟨_,_,_,xs0,e0,x0⟩:=aLY hf0 (show Rows.uptoBulk d0≤1048576 by omega)
 cases e0
 have k1:=h1
 have lt1:∀x∈p1,x.block<W.heap.size:=by obtain ⟨m,hm⟩:=k1;exact DataW.trod_lt m _ _ _ hm
 obtain ⟨a1,rfl,rfl,rfl,w1⟩:=open_int Tryz.underlying3 (hval 1 3 v1 rfl rfl) h1
 have k2:=h2
 have lt2:∀x∈p2,x.block<W.heap.size:=by obtain ⟨m,hm⟩:=k2;exact DataW.trod_lt m _ _ _ hm
 obtain ⟨a2,rfl,rfl,rfl,w2⟩:=open_int Tryz.underlying3 (hval 2 3 v2 rfl rfl) h2
 have k3:=h3
 have lt3:∀x∈p3,x.block<W.heap.size:=by obtain ⟨m,hm⟩:=k3;exact DataW.trod_lt m _ _ _ hm
 obtain ⟨cs3,rfl,_⟩:=okWide_struct Tryz.underlying27 (hval 3 27 v3 rfl rfl)
 obtain ⟨fuel3,hf3⟩:=h3
 obtain ⟨x3a,x3b,x3c,x3d,x3e,x3f,x3g,l3,z3,e3,x3⟩:=aMJ hf3 (show Rows.uptoBulk d3≤1048576 by omega)
 obtain rfl:cs3=#[.slice x3a x3b x3c,.bool x3d,.slice x3e x3f x3g]:=Array.toList_inj.1 e3
 have k4:=h4
 have lt4:∀x∈p4,x.block<W.heap.size:=by obtain ⟨m,hm⟩:=k4;exact DataW.trod_lt m _ _ _ hm
 obtain ⟨a4,n4,c4,rfl⟩:=okWide_slice Tryz.underlying35 (hval 4 35 v4 rfl rfl)
 obtain ⟨fuel4,hf4⟩:=h4
 obtain ⟨_,_,_,xs4,e4,x4⟩:=aMB hf4 (show Rows.uptoBulk d4≤1048576 by omega)
 cases e4
 clear hA0 hval0
 refine (aLF (aPI hL) x0 (bounds_i64 w1) (bounds_i64 w2) x3 x4 (show Rows.uptoBulk d0+Rows.uptoBulk d3+Rows.uptoBulk d4≤1048576 by omega)).mono fun e W' ⟨he,hk⟩=>?_
 subst he
 have bel:=hk.below
 exact⟨_,rfl,_,_,_,[],_,[],hW',trodAll_mk1 (shut_bool Tryz.underlying4 _),(trodAll_cons_mk (Below.trod laidOut (by kernel_rfl) (of_decide_eq_true (by kernel_rfl)) k0 bel lt0) (trodAll_cons_mk (Below.trod laidOut (by kernel_rfl) (of_decide_eq_true (by kernel_rfl)) k1 bel lt1) (trodAll_cons_mk (Below.trod laidOut (by kernel_rfl) (of_decide_eq_true (by kernel_rfl)) k2 bel lt2) (trodAll_cons_mk (Below.trod laidOut (by kernel_rfl) (of_decide_eq_true (by kernel_rfl)) k3 bel lt3) (trodAll_cons_mk (Below.trod laidOut (by kernel_rfl) (of_decide_eq_true (by kernel_rfl)) k4 bel lt4) trodAll_mk0))))),rfl,bel.frame _,fun h=>by cases h⟩
theorem laid_met (os:Os):laidMet Tryz.prog Rows.substMeansUptoRow.laid ((laidWorld os).forCall (fun _ _=>0) ⟨#[],#[.slice none 0 0,.int .i64 0,.int .i64 0,.agg #[.slice none 0 0,.bool false,.slice none 0 0],.slice none 0 0],[]⟩).memory:=
 laidMet_of_run' 8 (by kernel_rfl) (by kernel_rfl)
theorem reads (os:Os) {H:Type} (enc:TypeId × Value→H):∃places,DataW.whole enc Tryz.prog ((laidWorld os).forCall (fun _ _=>0) ⟨#[],#[.slice none 0 0,.int .i64 0,.int .i64 0,.agg #[.slice none 0 0,.bool false,.slice none 0 0],.slice none 0 0],[]⟩).memory Tryz.f7.params.toList Rows.substMeansSpec.vars false (#[.slice none 0 0,.int .i64 0,.int .i64 0,.agg #[.slice none 0 0,.bool false,.slice none 0 0],.slice none 0 0]:Array Value).toList 8=some ([.nil,.lit (.int .i64 0),.lit (.int .i64 0),.agg [.nil,.agg [.lit (.bool false),.nil]],.nil],[],places):=
 ⟨[],by kernel_rfl⟩
set_option maxRecDepth 100000 in
theorem lifted (os:Os) (started:os.Started) (H:Type) (enc:TypeId × Value→H) (F:Stop.Interp) :
  ReturnsInHanded {} Tryz.checked os 7 .any ((Rows.OpenSpec.upto Rows.substMeansSpec).preRow enc Tryz.prog Tryz.f7 Rows.substMeansUptoRow.domain false Rows.substMeansUptoRow.laid) (((Rows.OpenSpec.upto Rows.substMeansSpec).at F).post enc Tryz.prog Tryz.f7 false true false false):=by
 obtain ⟨places,hx⟩:=reads os enc
 refine returnsInHanded_of_row (C:=Tryz.checked) (s:=Rows.OpenSpec.upto Rows.substMeansSpec) own started (by kernel_rfl) Tryz.func7
  (witness_row_at (enc:=enc) (C:=Tryz.checked) false (laidWorld os) #[.slice none 0 0,.int .i64 0,.int .i64 0,.agg #[.slice none 0 0,.bool false,.slice none 0 0],.slice none 0 0] rfl (by kernel_rfl) (by kernel_rfl) (by kernel_rfl)
   (OpenSpec.preRow_of_cond 8 hx (by kernel_rfl) (fun k hk=>by cases hk;kernel_rfl) (by kernel_rfl) (laid_met os))) ?_
 intro W base args ds gs before hval hW _ hcond _ hL _ _
 have hb:Rows.uptoBulkAll (ds++gs)≤1048576:=of_decide_eq_true (hcond _ rfl)
 exact contract H enc W base args ds gs before hval hW hL hb
theorem said:Rows.SubstMeansUptoSaid:=
 OpenClaim.holds_of_cond 7 Tryz.f7 rfl rfl rfl rfl rfl rfl rfl ⟨rfl,rfl,rfl,rfl,rfl⟩ rfl rfl rfl rfl rfl (by kernel_rfl) Tryz.func7 (by kernel_rfl)
  (of_decide_eq_true (by kernel_rfl)) (by unfold Func.isWrapper;first|(rw [if_pos (by decide +kernel)];kernel_rfl)|(rw [if_neg (by decide +kernel)];exact⟨rfl,rfl⟩))
  (fun os started H enc _ F=>by rw [OpenClaim.pre_eq_preRow];exact lifted os started H enc F)
theorem plain (f:FuncId) (fn:Func) (hf:Tryz.pinned.checked.prog.funcNamed "riddle/riddlelaw12.SubstMeans"=some f) (hfn:Tryz.pinned.checked.prog.funcs[f]?=some fn) :
  false=Tryz.pinned.checked.prog.looks []∧∀(j:Nat) t,fn.params[j]?=some t→Tryz.pinned.checked.prog.wantsStandIn t=false:=by
 obtain rfl:f=7:=Option.some.inj ((show Tryz.prog.funcNamed "riddle/riddlelaw12.SubstMeans"=some 7 by kernel_rfl).symm.trans hf) |>.symm
 obtain rfl:fn=Tryz.f7:=(Option.some.inj (Tryz.func7.symm.trans hfn)).symm
 refine ⟨by kernel_rfl,fun j t ht=>?_⟩
 rw [Tryz.params7] at ht
 have hm:=Array.mem_of_getElem? ht
 have ho:t=39∨t=3∨t=27∨t=35:=by simpa using hm
 rcases ho with rfl|rfl|rfl|rfl
 ·exact (show Tryz.prog.wantsStandIn 39=false by kernel_rfl)
 ·exact (show Tryz.prog.wantsStandIn 3=false by kernel_rfl)
 ·exact (show Tryz.prog.wantsStandIn 27=false by kernel_rfl)
 ·exact (show Tryz.prog.wantsStandIn 35=false by kernel_rfl)
theorem card:Rows.SubstMeansUptoCardSaid:=
 Claim7.holds_tied_plain_at .later [] _ _ _ _ said (fun _ h=>by cases h) (by kernel_rfl) (fun _ h=>by cases h) substMeansUpto_row_tie rfl ⟨rfl,rfl⟩ (by kernel_rfl) rfl plain (by kernel_rfl)
#print axioms card
end Go.Proofs.YtlldghknenbccaaGreatDoor.substMeans
