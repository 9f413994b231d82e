/- What atom.Norm does: the one form of an atom's raw parts, or an error. -/
import Derived.Test.YtlldghknenbccaaGreatDoorRAtom5
set_option linter.unusedSimpArgs false
set_option linter.unusedVariables false
set_option maxRecDepth 100000
set_option maxHeartbeats 4000000
namespace Go.Proofs.Q
open Go.RowKit Tryz
def bJ (A:aY):Int × aY:=match ME A with|.inl e=>(e,⟨0,0,bK⟩)|.inr B=>(0,B)
theorem eH {A:aY} (h:A.kind=0∨A.kind=1):bJ A=(0,⟨A.kind,0,bK⟩):=by rw [bJ,ME,if_pos h]
theorem CG {A:aY} (h:A.kind=2):bJ A=(0,iG (bC A.t)):=by rw [bJ,ME,if_neg zZ,if_pos h]
theorem oJ {A:aY} (h:A.kind=3∨A.kind=4):bJ A=jN A.d (bC A.t) (decide (A.kind=4)):=by
 rw [bJ,ME,if_neg zZ,if_neg zZ,if_pos h,jN];split<;>split<;>simp_all
theorem DK {A:aY} (h0:A.kind≠0) (h1:A.kind≠1) (h2:A.kind≠2) (h3:A.kind≠3) (h4:A.kind≠4):bJ A=(1,⟨0,0,bK⟩):=by rw [bJ,ME,if_neg zZ,if_neg h2,if_neg zZ]
theorem OL {M M1 M2:Nat→Prop} {w:World} {k:Int} {ad ap ak:Option Addr} {nd cd np cp nk ck:Nat} {gd gk:Bool} {d z:Int} {l:aM} (hM:MB M w) (hd:ZAt Nil w gd ad nd cd d) (h:bI M1 M2 w ap np cp l) (hk:ZAt Nil w gk ak nk ck z) (h1:np≤16777216) (h2:nk≤1073741824) (hw:Wee (bC ⟨l,z⟩)) (hwd:eP d.natAbs≤536870912) :
  Calls prog 88 #[.agg #[.int .i64 k,.bool gd,.slice ad nd cd,.slice ap np cp,.bool gk,.slice ak nk ck]] w fun e w'=>QL M (bJ ⟨k,d,⟨l,z⟩⟩) w e w':=by
 have HA:=jJ (aI6 hM hd h hk hw hwd);clear hd h hk hM hw hwd;go_enter func88,ntmps88
 go_upto_region 1 with (fail)
 obtain ⟨w0,e_1,q0,r0,r1⟩:=bx2 w 82 [.int .i64 k,.bool gd,.slice ad nd cd,.slice ap np cp,.bool gk,.slice ak nk ck] 82 [.int .i64 0,.bool false,.slice none 0 0,.slice none 0 0,.bool false,.slice none 0 0];rw [e_1];clear e_1;obtain ⟨c0,c1,c2,c3,c4,c5⟩:=r0.eZ;obtain ⟨z0,z1,z2,z3,z4,z5⟩:=r1.eZ;obtain ⟨y0,y1,y2,y3,y4,y5⟩:=r1.iY;have lr1:=r1.lt;have H0:=jJ (aI3 q0 r0 r1);clear q0 r0 r1;by_cases k0:k=0
 ·subst k0;have r6:=H0.o.2.2.six (.int .i64 0) (.bool false) (.slice none 0 0) (.slice none 0 0) (.bool false) (.slice none 0 0);obtain ⟨x0,x1,x2,x3,x4,x5⟩:=r6.eZ;go_wp2_with fail
  rw [eH (.inl rfl)];exact bodyPost_ret (v:=.tuple #[.agg #[.int .i64 0,.bool false,.slice none 0 0,.slice none 0 0,.bool false,.slice none 0 0],.int .i64 0]) yD rfl ⟨_,rfl,⟨_,_,_,_,_,_,_,_,_,_,_,rfl,jA.zero⟩,H0.o.1.own zZ (aA.six _ _ _ _ _ _)⟩
 by_cases k1:k=1
 ·subst k1;have r6:=H0.o.2.2.six (.int .i64 1) (.bool false) (.slice none 0 0) (.slice none 0 0) (.bool false) (.slice none 0 0);obtain ⟨x0,x1,x2,x3,x4,x5⟩:=r6.eZ;go_wp2_with fail
  rw [eH (.inr rfl)];exact bodyPost_ret (v:=.tuple #[.agg #[.int .i64 1,.bool false,.slice none 0 0,.slice none 0 0,.bool false,.slice none 0 0],.int .i64 0]) yD rfl ⟨_,rfl,⟨_,_,_,_,_,_,_,_,_,_,_,rfl,jA.zero⟩,H0.o.1.own zZ (aA.six _ _ _ _ _ _)⟩
 by_cases k2:k=2
 ·subst k2;clear z0 z1 z2 z3 z4 z5 y0 y1 y2 y3 y4 y5;go_wp2_with (go_at_call 126;refine (aYW (M:=Old w0) (MB.old w0) (HA.o.2.2.1.eO H0.o.1) (HA.o.2.2.2.1.eO H0.o.1) h1 h2 HA.o.r4.1).mono ?_;rintro e w1 ⟨v,rfl,⟨gd',ad',nd',cd',ap',np',cp',gk',ak',nk',ck',rfl,hv⟩,hk1⟩;have r1:=H0.o.2.2.keep hk1 id;obtain ⟨z0,z1,z2,z3,z4,z5⟩:=r1.eZ;obtain ⟨y0,y1,y2,y3,y4,y5⟩:=r1.iY;have H1:=jJ (aI3 hv hk1 r1);clear hv hk1 r1)
  have r6:=H1.o.2.2.six (.int .i64 (iG (bC ⟨l,z⟩)).kind) (.bool gd') (.slice ad' nd' cd') (.slice ap' np' cp') (.bool gk') (.slice ak' nk' ck');obtain ⟨x0,x1,x2,x3,x4,x5⟩:=r6.eZ;refine bodyPost_ret (v:=.tuple #[.agg #[.int .i64 (iG (bC ⟨l,z⟩)).kind,.bool gd',.slice ad' nd' cd',.slice ap' np' cp',.bool gk',.slice ak' nk' ck'],.int .i64 0]) yD rfl ⟨_,rfl,?_,(H0.o.1.trans H1.o.2.1).own zZ (aA.six _ _ _ _ _ _)⟩;rw [CG rfl];exact⟨_,_,_,_,_,_,_,_,_,_,_,rfl,H1.o.1.out lr1 (fun b hb=>qB) (aA.six _ _ _ _ _ _)⟩
 by_cases k3:k=3
 ·subst k3;clear z0 z1 z2 z3 z4 z5 y0 y1 y2 y3 y4 y5;go_wp2_with (go_at_call 106;refine (aDJ (M:=Old w0) false (MB.old w0) (HA.o.2.1.eO H0.o.1) (HA.o.2.2.1.eO H0.o.1) (HA.o.2.2.2.1.eO H0.o.1) h1 h2 HA.o.r4.1 HA.o.r5).mono ?_;rintro e w1 ⟨v,rfl,⟨gd',ad',nd',cd',ap',np',cp',gk',ak',nk',ck',rfl,hv⟩,hk1⟩;have r1:=H0.o.2.2.keep hk1 id;obtain ⟨z0,z1,z2,z3,z4,z5⟩:=r1.eZ;obtain ⟨y0,y1,y2,y3,y4,y5⟩:=r1.iY;have H1:=jJ (aI3 hv hk1 r1);clear hv hk1 r1)
  have r6:=H1.o.2.2.six (.int .i64 (jN d (bC ⟨l,z⟩) false).2.kind) (.bool gd') (.slice ad' nd' cd') (.slice ap' np' cp') (.bool gk') (.slice ak' nk' ck');obtain ⟨x0,x1,x2,x3,x4,x5⟩:=r6.eZ;refine bodyPost_ret (v:=.tuple #[.agg #[.int .i64 (jN d (bC ⟨l,z⟩) false).2.kind,.bool gd',.slice ad' nd' cd',.slice ap' np' cp',.bool gk',.slice ak' nk' ck'],.int .i64 (jN d (bC ⟨l,z⟩) false).1]) yD rfl ?_;rw [oJ (.inl rfl)];exact⟨_,rfl,⟨_,_,_,_,_,_,_,_,_,_,_,rfl,H1.o.1.out lr1 (fun b hb=>qB) (aA.six _ _ _ _ _ _)⟩,(H0.o.1.trans H1.o.2.1).own zZ (aA.six _ _ _ _ _ _)⟩
 by_cases k4:k=4
 ·subst k4;clear z0 z1 z2 z3 z4 z5 y0 y1 y2 y3 y4 y5;go_wp2_with (go_at_call 106;refine (aDJ (M:=Old w0) true (MB.old w0) (HA.o.2.1.eO H0.o.1) (HA.o.2.2.1.eO H0.o.1) (HA.o.2.2.2.1.eO H0.o.1) h1 h2 HA.o.r4.1 HA.o.r5).mono ?_;rintro e w1 ⟨v,rfl,⟨gd',ad',nd',cd',ap',np',cp',gk',ak',nk',ck',rfl,hv⟩,hk1⟩;have r1:=H0.o.2.2.keep hk1 id;obtain ⟨z0,z1,z2,z3,z4,z5⟩:=r1.eZ;obtain ⟨y0,y1,y2,y3,y4,y5⟩:=r1.iY;have H1:=jJ (aI3 hv hk1 r1);clear hv hk1 r1)
  have r6:=H1.o.2.2.six (.int .i64 (jN d (bC ⟨l,z⟩) true).2.kind) (.bool gd') (.slice ad' nd' cd') (.slice ap' np' cp') (.bool gk') (.slice ak' nk' ck');obtain ⟨x0,x1,x2,x3,x4,x5⟩:=r6.eZ;refine bodyPost_ret (v:=.tuple #[.agg #[.int .i64 (jN d (bC ⟨l,z⟩) true).2.kind,.bool gd',.slice ad' nd' cd',.slice ap' np' cp',.bool gk',.slice ak' nk' ck'],.int .i64 (jN d (bC ⟨l,z⟩) true).1]) yD rfl ?_;rw [oJ (.inr rfl)];exact⟨_,rfl,⟨_,_,_,_,_,_,_,_,_,_,_,rfl,H1.o.1.out lr1 (fun b hb=>qB) (aA.six _ _ _ _ _ _)⟩,(H0.o.1.trans H1.o.2.1).own zZ (aA.six _ _ _ _ _ _)⟩
 ·have e0:((k:Int)==0)=false:=by simpa using k0
  have e1:((k:Int)==1)=false:=by simpa using k1
  have e2:((k:Int)==2)=false:=by simpa using k2
  have e3:((k:Int)==3)=false:=by simpa using k3
  have e4:((k:Int)==4)=false:=by simpa using k4
  have r6:=H0.o.2.2.six (.int .i64 0) (.bool false) (.slice none 0 0) (.slice none 0 0) (.bool false) (.slice none 0 0);obtain ⟨x0,x1,x2,x3,x4,x5⟩:=r6.eZ;go_wp2_with fail
  rw [DK k0 k1 k2 k3 k4];exact bodyPost_ret (v:=.tuple #[.agg #[.int .i64 0,.bool false,.slice none 0 0,.slice none 0 0,.bool false,.slice none 0 0],.int .i64 1]) yD rfl ⟨_,rfl,⟨_,_,_,_,_,_,_,_,_,_,_,rfl,jA.zero⟩,H0.o.1.own zZ (aA.six _ _ _ _ _ _)⟩
end Go.Proofs.Q
