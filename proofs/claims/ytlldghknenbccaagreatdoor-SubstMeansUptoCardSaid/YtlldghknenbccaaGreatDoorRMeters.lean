/- What sync/atomic's entries at pointers do, as calls' laws; pointers turned to unsafe pointers and back; when t. -/
import Derived.Test.YtlldghknenbccaaGreatDoorRNats
import Derived.Deep.RegionHeld3
set_option linter.unusedSimpArgs false
set_option linter.unusedVariables false
set_option maxHeartbeats 1000000
namespace Go.Proofs.Q
open Go.RowKit Tryz
section
variable {w:World} {a:Addr} {u v:Value} {g:Nat}
theorem bAP:(Tryz.f172.name== "runtime.NumGoroutine")=false:=zX
theorem bBG:Extern.findNext Tryz.f172=none:=zX
theorem bAV:Extern.find Tryz.f172=some Extern.Atomic.storeT:=zX
theorem bAN:Tryz.f172.body.isNone=true:=zX
theorem bBI:(Tryz.f173.name== "runtime.NumGoroutine")=false:=zX
theorem bBZ:Extern.findNext Tryz.f173=none:=zX
theorem bBY:Extern.find Tryz.f173=some (Extern.Atomic.loadT .ptr):=zX
theorem bBV:Tryz.f173.body.isNone=true:=zX
theorem bCJ:(Tryz.f228.name== "runtime.NumGoroutine")=false:=zX
theorem bCN:Extern.findNext Tryz.f228=none:=zX
theorem bCG:Extern.find Tryz.f228=some (Extern.Atomic.casT .ptr):=zX
theorem bCP:Tryz.f228.body.isNone=true:=zX
theorem aNA {q:Option Addr} (hc:w.cell? a=some u) (hz:w.frozen? a=false) :
  (callFunc 172 #[.pointer (some a),.pointer q]).run prog w=.ok (.value (.tuple #[])) (w.setCell a (.pointer q)):=by
 rw [run_callFunc_extern func172 bAP bAN bBG bAV];rw [show Extern.Atomic.storeT #[.pointer (some a),.pointer q]=(store a (.pointer q) .atomic >>= fun _=>pure Extern.Atomic.none_) from rfl];simp [hc,hz,run_store prog w a (.pointer q) .atomic rfl,Result.andThen,Extern.Atomic.none_]
theorem aPF {q:Option Addr} (hc:w.cell? a=some (.pointer q)) :
  (callFunc 173 #[.pointer (some a)]).run prog w=.ok (.value (.pointer q)) w:=by
 rw [run_callFunc_extern func173 bBI bBV bBZ bBY];rw [show Extern.Atomic.loadT .ptr #[.pointer (some a)]=Extern.Atomic.read .ptr a from rfl];simp [Extern.Atomic.read,hc,Result.andThen]
theorem aRH {p:Addr} {q:Option Addr} (hc:w.cell? a=some (.pointer (some p))) (hz:w.frozen? a=false) :
  (callFunc 228 #[.pointer (some a),.pointer (some p),.pointer q]).run prog w=.ok (.value (.bool true)) (w.setCell a (.pointer q)):=by
 rw [run_callFunc_extern func228 bCJ bCP bCN bCG];change (Sem.run prog (do
  let a' ←asAddr (.pointer (some a))
  if ←Extern.Atomic.touchesFrozen a' then unsupported (.unsafePointer "a write to bytes that a string shares")
  let eq ←match Extern.Atomic.T.ptr,←Extern.Atomic.read .ptr a',Value.pointer (some p) with
   | _,.int _ x,.int _ y=>pure (x==y)
   | .ptr,.pointer x,.pointer y=>samePointer x y
   | .int _,.pointer (some _),.int _ 0|.int _,.int _ 0,.pointer (some _)=>pure false
   | .int _,.pointer (some _),_|.int _,_,.pointer (some _)=>unsupported .addressObserved
   | _,_,_=>stuck "atomic.CompareAndSwap: old is no T"
  if eq then store a' (.pointer q) .atomic
  pure (Value.bool eq)) w).andThen _=_
 simp [asAddr,Extern.Atomic.touchesFrozen,Extern.Atomic.read,asAddr,viewAt,World.shape?_isSome_of_cell? hc,hc,hz,samePointer,run_sameAddr_same,run_store prog w a (.pointer q) .atomic rfl,Result.andThen]
theorem aHX:(prog.info? 129).map (fun i=>decide (i.size=0))=some false:=zX
theorem aRE:liesAt prog prog.depth 129 (2 / prog.cellsOf 129) 0 129 1=true:=zX
theorem TA (hc:w.cell? a=some v):(convert 156 160 (.pointer (some a))).run prog w=.ok (.pointer (some a)) w:=
 run_convert_to_unsafe underlying156 underlying160 aHX hc
theorem aLV {x y:Value} (h:aF w g 129 [x,y]) :
  (convert 160 156 (.pointer (some ⟨g,0,none⟩))).run prog w=.ok (.pointer (some ⟨g,0,none⟩)) w:=by
 obtain ⟨j,hj,_⟩:=Option.map_eq_some_iff.1 aHX;exact Lib.run_from_unsafe w (cells:=2) (e:=129) ⟨g,0,none⟩ underlying160 underlying156 hj (by simp [World.shape?,h.out]) aRE
theorem aMU (w:World) (a b c d:Int):(binOp .eql 129 (.agg #[.int .i64 a,.int .i64 b]) (.agg #[.int .i64 c,.int .i64 d])).run prog w=.ok (.bool (a==c&&b==d)) w:=by
 have u3:=underlying3;have a3:=isAgg3;have z3:=sizeOf3;have u4:=underlying29;have a4:=isAgg29;have z4:=sizeOf29;have hS:prog.underlying 129=some (.struct (prog.fieldsOf 129)):=zX;have hp:prog.stoodInHeld 129=false:=zX;rw [run_eql_struct,show (10000:Nat)=9999+1 from rfl,run_equalIn_agg w 9999 129 _ _ hS hp];simp only [Program.fieldsOf,underlying129];go_simp
 by_cases h1:a=c<;>by_cases h2:b=d<;>simp [h1,h2]
end
theorem aUE {M:Nat→Prop} {g:Bool} {a:Option Addr} {n c:Nat} {l:List Nat} {w:World} (hM:MB M w) (h:aU M w a n c l) (hr:n*4≤140737488355328) :
  Calls prog 183 #[.agg #[.bool g,.slice a n c]] w fun e w'=>e=.returned (.int .i64 (top l:Int))∧aA Nil w w':=by
 have HH:=jJ h;have HM:=jJ hM;clear h hM;go_enter func183,ntmps183
 go_wp2_with (go_at_call 132;refine (KZ (HM.o.keep ((aA.refl Nil w).alloc _)) (HH.o.keep' ((aA.refl M w).alloc _)) hr).mono ?_;rintro e w' ⟨a',c',rfl,h',hk'⟩)
 go_ret
 exact⟨rfl,((aA.refl Nil w).alloc _).trans hk'⟩
section
variable {xs:List (Bool × List Nat)} {M:Nat→Prop} {w:World} {limbs nodes:Int} {g s i:Nat} {p a:Option Addr} {x y:Value}
def bR (M:Nat→Prop) (w:World) (g:Nat) (nodes limbs spent over:Int):Prop:=
 ∃s,aF w g 164 [.int .i64 nodes,.int .i64 limbs,.pointer (some ⟨s,0,none⟩)]∧aF w s 129 [.int .i64 spent,.int .i64 over]∧s≠g∧¬M g∧¬M s
theorem bR.lt {M:Nat→Prop} {w:World} {g:Nat} {n l s o:Int} (h:bR M w g n l s o):g<w.heap.size:=h.elim fun _ h=>h.1.lt
theorem aNT (w:World) (a b:Value):(Instr.field 129 (.agg #[a,b]) 1).run prog w=.ok b w:=zX
theorem aBH (s o e:Int) (w:World) :
  Calls prog 184 #[.agg #[.int .i64 s,.int .i64 o],.int .i64 e] w fun r w'=>r=.returned (.tuple #[.agg #[.int .i64 s,.int .i64 e],.int .i64 e])∧(w.alloc (.cells #[.int .i64 s,.int .i64 e] 129)).alloc (.cells #[.int .i64 s,.int .i64 e] 129)=w':=by
 go_enter func184,ntmps184
 go_wp2
 refine bodyPost_ret (v:=.tuple #[.agg #[.int .i64 s,.int .i64 e],.int .i64 e]) (by simp [results,results184,go_sem]) rfl ⟨rfl,rfl⟩
theorem VE {a b:Value} (h:aF w g 164 [a,b,.pointer (some ⟨s,0,none⟩)]) (hs:aF w s 129 [x,y]) :
  Calls prog 121 #[.pointer (some ⟨g,2,none⟩)] w fun r w'=>r=.returned (.pointer (some ⟨s,0,none⟩))∧w=w':=by
 have hl:=aPF (a:=⟨g,2,none⟩) (h.cell 2);have hf:=aLV hs;have hc:=h.cell 2;clear h hs;go_enter func121,ntmps121
 go_wp2
 go_ret
 exact⟨rfl,rfl⟩
theorem aZX {spent over:Int} (h:bR M w g nodes limbs spent over) :
  Calls prog 82 #[.pointer (some ⟨g,0,none⟩)] w fun r w'=>r=.returned (.agg #[.int .i64 spent,.int .i64 over])∧aA Nil w w':=by
 obtain ⟨s,h1,h2,hne,-,-⟩:=h;have hs:=h2.lt;have c0:=h2.cell 0;have c1:=h2.cell 1;simp at c0 c1;have H1:=jJ (h1.keep ((aA.refl Nil w).alloc (.cells #[.int .i64 0,.int .i64 0] 129)) id);have H2:=jJ (h2.keep ((aA.refl Nil w).alloc (.cells #[.int .i64 0,.int .i64 0] 129)) id);clear h1 h2;go_enter func82,ntmps82
 go_wp2_with (go_at_call 121;refine (VE H1.o H2.o).mono ?_;rintro e w' ⟨rfl,rfl⟩)
 exact bodyPost_ret (v:=.agg #[.int .i64 spent,.int .i64 over]) (by simp [results,results82,go_sem]) rfl ⟨rfl,(aA.refl Nil w).alloc _⟩
theorem aEK {spent over:Int} (h:bR M w g nodes limbs spent over) :
  Calls prog 32 #[.pointer (some ⟨g,0,none⟩)] w fun r w'=>r=.returned (.int .i64 over)∧aA Nil w w':=by
 have H:=jJ h;clear h;have hf:=aNT;go_enter func32,ntmps32
 go_wp2_with (go_at_call 82;refine (aZX H.o).mono ?_;rintro e w' ⟨rfl,hk⟩)
 go_ret
 exact⟨rfl,hk⟩
theorem aSL {u v:Value} (h:aF w g 164 [u,v,.pointer p]) (hs:aF w s 129 [x,y]) :
  Calls prog 120 #[.pointer (some ⟨g,2,none⟩),.pointer (some ⟨s,0,none⟩)] w fun r w'=>r=.returned (.tuple #[])∧w'=w.setCell ⟨g,2,none⟩ (.pointer (some ⟨s,0,none⟩)):=by
 have hl:=fun q=>aNA (a:=⟨g,2,none⟩) (q:=q) (h.cell 2) (h.frozen 2);have hf:=TA (hs.cell 0);clear h hs;go_enter func120,ntmps120
 go_wp2
 go_end0
 exact⟨rfl,rfl⟩
theorem bAS (nodes limbs:Int) (w:World) (hM:MB M w) (h1:1≤nodes) (h2:nodes≤2000) (h3:1≤limbs) (h4:limbs≤8) :
  Calls prog 77 #[.int .i64 nodes,.int .i64 limbs] w fun r w'=>∃g,r=.returned (.tuple #[.pointer (some ⟨g,0,none⟩),.int .i64 0])∧bR M w' g nodes limbs 0 0∧aA Nil w w'∧w.heap.size≤g:=by
 have R1:=jJ ((aF.alloc (w:=w) (E:=164) (xs:=[.int .i64 nodes,.int .i64 limbs,.pointer none])).keep ((aA.refl Nil _).alloc (.cells #[.int .i64 0,.int .i64 0] 129)) id);have R2:=jJ (aF.alloc (w:=w.alloc (.cells #[.int .i64 nodes,.int .i64 limbs,.pointer none] 164)) (E:=129) (xs:=[.int .i64 0,.int .i64 0]));go_enter func77,ntmps77
 go_wp2_with (go_at_call 120;refine (aSL R1.out (s:=w.heap.size+1) (by simpa using R2.out)).mono ?_;rintro e w' ⟨rfl,rfl⟩)
 go_ret2
 refine ⟨_,rfl,⟨w.heap.size+1,?_,?_,zZ,fun hm=>by have:=hM _ hm;omega,fun hm=>by have:=hM _ hm;omega⟩,((aA.refl Nil w).alloc _).alloc _,bZ2 _⟩
 ·exact aF.keep (aF.alloc (xs:=[_,_,_])) ((aA.refl Nil _).alloc _) id
 ·have h:=aF.alloc (w:=w.alloc (.cells #[.int .i64 nodes,.int .i64 limbs,.pointer (some ⟨w.heap.size+1,0,none⟩)] 164)) (E:=129) (xs:=[.int .i64 0,.int .i64 0]);simpa using h
def XY (x:Int × Int × Int):Value:=.tuple #[.agg #[.int .i64 x.1,.int .i64 x.2.1],.int .i64 x.2.2]
theorem PD (a b c:Int):XY (a,b,c)=.tuple #[.agg #[.int .i64 a,.int .i64 b],.int .i64 c]:=rfl
def great (limbs:Int) (xs:List (Bool × List Nat)):Bool:=xs.any fun x=>decide (limbs<(top x.2:Int))
theorem aRS (hi:i<xs.length) (h:limbs<(top (ith xs i).2:Int)):great limbs xs=true:=by
 unfold great;rw [eZ3];exact⟨xs[i],List.getElem_mem hi,by simpa [ith,hi] using h⟩
theorem aPL (h:∀i,i<xs.length→¬limbs<(top (ith xs i).2:Int)):great limbs xs=false:=by
 unfold great;rw [List.any_eq_false];intro x hx;obtain ⟨i,hi,rfl⟩:=jZ3 hx;have:=h i hi;simpa [ith,hi] using this
def lD (nodes limbs s:Int) (xs:List (Bool × List Nat)):Int × Int × Int:=if great limbs xs then (s,71,71) else if s=nodes then (s,70,70) else (s+1,0,0)
theorem aUD {pl pm n c:Nat} {s:Int} (hM:MB M w) (hpl:pl<w.heap.size) (hpm:pm<w.heap.size) (hg:g<w.heap.size)
  (cl:w.cell? ⟨pl,0,none⟩=some (.slice a n c)) (cm:w.cell? ⟨pm,0,none⟩=some (.pointer (some ⟨g,0,none⟩)))
  (cg:w.cell? ⟨g,0,none⟩=some (.int .i64 nodes)) (cg1:w.cell? ⟨g,1,none⟩=some (.int .i64 limbs)) (hx:Ints M w a n c xs) (hs0:0≤s) (hs:s≤nodes) (hn:nodes≤2000) :
  Calls prog 182 #[.agg #[.int .i64 s,.int .i64 0],.pointer (some ⟨pl,0,none⟩),.pointer (some ⟨pm,0,none⟩)] w fun r w'=>r=.returned (XY (lD nodes limbs s xs))∧aA Nil w w':=by
 have K2:aA Nil w ((w.alloc (.cells #[.int .i64 s,.int .i64 0] 129)).alloc (.cells #[.int .i64 0,.int .i64 0] 129)):=((aA.refl Nil w).alloc _).alloc _;have R1:=jJ ((aF.alloc (w:=w) (E:=129) (xs:=[.int .i64 s,.int .i64 0])).keep ((aA.refl Nil _).alloc (.cells #[.int .i64 0,.int .i64 0] 129)) id);have R2:=jJ (aF.alloc (w:=w.alloc (.cells #[.int .i64 s,.int .i64 0] 129)) (E:=129) (xs:=[.int .i64 0,.int .i64 0]));have HX:=jJ (hx.eO K2);have HM:=jJ (hM.keep K2);have HK:=jJ K2;have hcap:=hx.cap;have hle:=hx.le;have HL:=jJ hx.len;clear hM hx K2;go_enter func182,ntmps182
 go_wp2
 go_loopw [10] (fun i wr=>∃k:Nat,k≤n∧i=.int .i64 k∧(∀j,j<k→¬limbs<(top (ith xs j).2:Int))∧aA Nil ((w.alloc (.cells #[.int .i64 s,.int .i64 0] 129)).alloc (.cells #[.int .i64 0,.int .i64 0] 129)) wr) (fun i _=>n-(intOf i).toNat)
 case atStart=>exact⟨0,aZ2 _,rfl,fun j hj=>zZ,aA.refl _ _⟩
 case round=>
  obtain ⟨k,hk,rfl,hj,hkk⟩:=hrel;have r1:=R1.out.keep hkk id;have r2:=R2.out.keep hkk id;simp only [World.size_alloc] at r2;obtain ⟨c10,c11,f10,f11⟩:=r1.two;obtain ⟨c20,c21,f20,f21⟩:=r2.two;have hz:=r2.lt;have HR:=jJ (aI r1 r2);have HJ:=jJ hj;have cl':=hkk.eY zV id (HK.o.eY hpl id cl);have cm':=hkk.eY zV id (HK.o.eY hpm id cm);have cg':=hkk.eY zV id (HK.o.eY hg id cg);have cg1':=hkk.eY zV id (HK.o.eY hg id cg1);have HX':=jJ (HX.o.eO hkk);have HM':=jJ (HM.o.keep hkk);have HKK:=jJ hkk;have hsz:=hkk.size;simp at hsz;have hpl':pl<wr.heap.size:=zZ;have hpm':pm<wr.heap.size:=zZ;have hg':g<wr.heap.size:=zZ;clear r1 r2 hj cl cm cg cg1 hkk;by_cases hlt:k<n
  ·obtain ⟨b,off,a',n',c',rfl,hb,hnM,d0,d1,hL,hr⟩:=HX'.o.at hlt;have HL':=jJ hL;have hpm'':pm<wr.heap.size+1:=zZ;have hg'':g<wr.heap.size+1:=zZ;clear hL;go_wp2_with fail
   go_region_held3 (fun w'=>w'.cell? ⟨wr.heap.size,0,none⟩=some (.bool (ith xs k).1)∧w'.cell? ⟨wr.heap.size,1,none⟩=some (.slice a' n' c')∧w'.cell? ⟨pm,0,none⟩=some (.pointer (some ⟨g,0,none⟩))∧w'.cell? ⟨g,1,none⟩=some (.int .i64 limbs)) (go_keep) ((go_at_call 183;refine (aUE (M:=M) (l:=(ith xs k).2) (HM'.o.keep (M':=Nil) kOf) (HL'.o.keep (M':=Nil) kOf (fun _ _ h=>h.elim)) hr).mono ?_;rintro e w2 ⟨rfl,hk2⟩;obtain ⟨rc,rf⟩:=hk2.rules))
   have hb2:aA Nil w w2:=((HK.o.trans HKK.o).trans kOf).trans hk2;have hz2:=hk2.size;simp at hz2;have r1:=(HR.o.1.keep (M:=Nil) kOf id).keep hk2 id;have r2:=(HR.o.2.keep (M:=Nil) kOf id).keep hk2 id;obtain ⟨e10,e11,g10,g11⟩:=r1.two;obtain ⟨e20,e21,g20,g21⟩:=r2.two;have z1:=r1.lt;have z2:=r2.lt;have HB:=jJ hb2;have HK2:=jJ hk2;clear hb2 hk2 c10 c11 f10 f11 c20 c21 f20 f21 r1 r2;by_cases hgr:limbs<(top (ith xs k).2:Int)
   ·have e:lD nodes limbs s xs=(s,71,71):=by simp [lD,aRS xB hgr]
    have E:=jJ e;clear e;go_wp2_with (go_at_call 184;refine (aBH _ _ _ _).mono ?_;rintro e w' ⟨rfl,rfl⟩)
    rw [E.out,PD];refine bodyPost_ret (v:=.tuple #[.agg #[.int .i64 s,.int .i64 71],.int .i64 71]) (by simp [results,results182,go_sem,e20,e21,z1,z2]) rfl ⟨rfl,?_⟩;repeat (first|exact HB.o|refine aA.alloc ?_ _|refine aA.drewN ?_ _|refine aA.setCell ?_ (.inr zW) _)
   ·go_wp2
    go_roundw
    case rel=>exact⟨k+1,zZ,zF,fun j hj=>by rcases Nat.lt_succ_iff_lt_or_eq.1 hj with h|rfl;exact Int.not_lt.2 (HJ.o j h);exact hgr,(HKK.o.trans kOf).trans HK2.o⟩
    case measure=>exact zI
  ·obtain rfl:k=n:=zZ;have hgf:great limbs xs=false:=aPL (fun i hi=>HJ.o i xB);by_cases hsn:s=nodes
   ·subst hsn;have e:lD s limbs s xs=(s,70,70):=by simp [lD,hgf]
    have E:=jJ e;clear e hgf;go_wp2_with fail
    go_quiet (fail)
    have q1:aF (wr.drewN nq) w.heap.size _ _:=HR.o.1;have q2:aF (wr.drewN nq) (w.heap.size+1) _ _:=HR.o.2;have kq:aA Nil w (wr.drewN nq):=(HK.o.trans HKK.o).drewN nq;have hzq:w.heap.size+1<(wr.drewN nq).heap.size:=hz;have hzq0:w.heap.size<(wr.drewN nq).heap.size:=Nat.lt_of_succ_lt hz;generalize wr.drewN nq=wq at *
    obtain ⟨e10,e11,g10,g11⟩:=q1.two;obtain ⟨e20,e21,g20,g21⟩:=q2.two;have KQ:=jJ kq;clear c10 c11 f10 f11 c20 c21 f20 f21 q1 q2 kq cl' cm' cg' cg1';go_wp2_with (go_at_call 184;refine (aBH _ _ _ _).mono ?_;rintro e w' ⟨rfl,rfl⟩)
    rw [E.out,PD];refine bodyPost_ret (v:=.tuple #[.agg #[.int .i64 s,.int .i64 70],.int .i64 70]) (by simp [results,results182,go_sem,e20,e21,hzq,hzq0]) rfl ⟨rfl,?_⟩;repeat (first|exact KQ.out|refine aA.alloc ?_ _|refine aA.drewN ?_ _|refine aA.setCell ?_ (.inr zW) _)
   ·have e:lD nodes limbs s xs=(s+1,0,0):=by simp [lD,hgf,hsn]
    have E:=jJ e;have hsb:(s==nodes)=false:=by simpa using hsn
    clear e hgf hsn;go_wp2_with fail
    go_quiet (fail)
    have q1:aF (wr.drewN nq) w.heap.size _ _:=HR.o.1;have q2:aF (wr.drewN nq) (w.heap.size+1) _ _:=HR.o.2;have kq:aA Nil w (wr.drewN nq):=(HK.o.trans HKK.o).drewN nq;have hzq:w.heap.size+1<(wr.drewN nq).heap.size:=hz;have hzq0:w.heap.size<(wr.drewN nq).heap.size:=Nat.lt_of_succ_lt hz;generalize wr.drewN nq=wq at *
    obtain ⟨e10,e11,g10,g11⟩:=q1.two;obtain ⟨e20,e21,g20,g21⟩:=q2.two;have KQ:=jJ kq;clear c10 c11 f10 f11 c20 c21 f20 f21 q1 q2 kq cl' cm' cg' cg1';go_wp2
    rw [E.out,PD];refine bodyPost_ret (v:=.tuple #[.agg #[.int .i64 (s+1),.int .i64 0],.int .i64 0]) (by simp [results,results182,go_sem,e20,e21]) rfl ⟨rfl,?_⟩;repeat (first|exact KQ.out|refine aA.alloc ?_ _|refine aA.drewN ?_ _|refine aA.setCell ?_ (.inr zW) _)
end
section
variable {M:Nat→Prop} {w w':World} {g:Nat} {xs:List (Bool × List Nat)} {nodes limbs s o:Int} {a:Option Addr} {gf:FuncId} {f:Value}
theorem bAH {s q:Nat} {u v x y a b:Value} (h:aF w g 164 [u,v,.pointer (some ⟨s,0,none⟩)]) (hs:aF w s 129 [x,y]) (hq:aF w q 129 [a,b]) :
  Calls prog 207 #[.pointer (some ⟨g,2,none⟩),.pointer (some ⟨s,0,none⟩),.pointer (some ⟨q,0,none⟩)] w fun r w'=>r=.returned (.bool true)∧aF w' g 164 [u,v,.pointer (some ⟨q,0,none⟩)]∧aA (Go.Proofs.Q.One g) w w':=by
 have hl:=fun q=>aRH (a:=⟨g,2,none⟩) (q:=q) (h.cell 2) (h.frozen 2);have hf:=TA (hs.cell 0);have hf2:=TA (hq.cell 0);have HR:=jJ (h.set 2 (.pointer (some ⟨q,0,none⟩)));clear h hs hq;go_enter func207,ntmps207
 go_wp2
 go_ret
 exact⟨rfl,HR.o,(aA.refl (Go.Proofs.Q.One g) w).setCell (p:=⟨g,2,none⟩) (.inl rfl) _⟩
theorem aUF {spent over:Int} (h:bR M w g nodes limbs spent over) (ho:over≠0) :
  Calls prog 181 #[.pointer (some ⟨g,0,none⟩),f] w fun r w'=>r=.returned (.int .i64 over)∧w=w':=by
 obtain ⟨s,h1,h2,hne,-,-⟩:=h;obtain ⟨c0,c1,_,_⟩:=h2.two;have H1:=jJ h1;have H2:=jJ h2;have hob:(over != 0)=true:=by simpa using ho
 clear h1 h2 ho;go_enter func181,ntmps181
 go_wp2_with fail
 refine wp_loop_rounds 1 ?_;rw [rounds_succ];go_wp2_with (go_at_call 121;refine (VE H1.o H2.o).mono ?_;rintro e w' ⟨rfl,rfl⟩)
 go_ret
 exact⟨rfl,rfl⟩
theorem bAF {spent x1 x2 x3:Int} (hgf:gf=182) {p1 p2:Option Addr} (hMB:MB M w) (h:bR M w g nodes limbs spent 0)
  (hstep:Calls prog gf #[.agg #[.int .i64 spent,.int .i64 0],.pointer p1,.pointer p2] w fun r w'=>r=.returned (XY (x1,x2,x3))∧aA Nil w w') :
  Calls prog 181 #[.pointer (some ⟨g,0,none⟩),.func (.func gf) #[] #[.pointer p1,.pointer p2]] w fun r w'=>r=.returned (.int .i64 x3)∧bR M w' g nodes limbs x1 x2∧aA (Go.Proofs.Q.One g) w w':=by
 obtain ⟨s,h1,h2,hne,hmg,hms⟩:=h;have HMM:=jJ (aI3 hMB hmg hms);clear hMB hmg hms;have hq:=fun w a b c d=>aMU w a b c d;obtain ⟨c0,c1,_,_⟩:=h2.two;have H1:=jJ h1;have H2:=jJ h2;have HS:=jJ hstep;have hs:=h2.lt;have hg:=h1.lt;clear h1 h2 hstep;obtain rfl:=hgf;all_goals
  go_enter func181,ntmps181
  go_wp2_with fail
  refine wp_loop_rounds 1 ?_;rw [rounds_succ];go_wp2_with (first|(go_at_call 121;refine (VE H1.o H2.o).mono ?_;rintro e w' ⟨rfl,rfl⟩)|(go_at_call 182;refine HS.o.mono ?_;rintro e w1 ⟨rfl,hk1⟩;rw [PD]))
  have r1:=H1.o.keep hk1 id;have r2:=H2.o.keep hk1 id;have hs1:s<w1.heap.size:=r2.lt;have hg1:g<w1.heap.size:=r1.lt;obtain ⟨d0,d1,_,_⟩:=r2.two;have K1:=jJ hk1;have r3:=aF.alloc (w:=w1) (E:=129) (xs:=[.int .i64 x1,.int .i64 x2]);have HR:=jJ (aI3 r1 r2 r3);clear hk1 r1 r2 r3;by_cases he:(x1==spent&&x2==0)=true
  ·go_quiet (fail)
   go_wp2
   go_ret
   simp only [Bool.and_eq_true,beq_iff_eq] at he;obtain ⟨rfl,rfl⟩:=he;exact⟨rfl,⟨s,HR.o.1.keep (M:=Nil) kOf id,HR.o.2.1.keep (M:=Nil) kOf id,hne,HMM.o.2.1,HMM.o.2.2⟩,(K1.out.trans kOf).of_nil⟩
  ·have he':(x1==spent&&x2==0)=false:=by simpa using he
   clear he;go_region_held3 (fun w'=>w'.cell? ⟨w1.heap.size,0,none⟩=some (.int .i64 x1)∧w'.cell? ⟨w1.heap.size,1,none⟩=some (.int .i64 x2)∧w'.cell? ⟨s,0,none⟩=some (.int .i64 spent)∧w'.cell? ⟨s,1,none⟩=some (.int .i64 0)) (go_keep) ((go_at_call 207;refine (bAH (HR.o.1.keep (M:=Nil) kOf id) (HR.o.2.1.keep (M:=Nil) kOf id) (HR.o.2.2.keep (M:=Nil) kOf id)).mono ?_;rintro e w2 ⟨rfl,hr2,hk2⟩;have b2:=(HR.o.2.1.keep (M:=Nil) kOf id).keep hk2 hne;have b3:=(HR.o.2.2.keep (M:=Nil) kOf id).keep hk2 (show ¬w1.heap.size=g by omega);obtain ⟨e20,e21,_,_⟩:=b2.two;obtain ⟨e30,e31,_,_⟩:=b3.two))
   go_wp2
   go_ret
   exact⟨rfl,⟨_,hr2,b3,(show ¬w1.heap.size=g by omega),HMM.o.2.1,fun hm=>by have h7:=HMM.o.1 _ hm;have h8:=K1.out.size;omega⟩,((K1.out.trans kOf).of_nil.trans hk2)⟩
theorem bR.move {M' M2:Nat→Prop} {n l:Int} (h:bR M w g n l s o) (k:aA M' w w') (h1:∀b,b<w.heap.size→M' b→M b) (h2:∀b,b<w.heap.size→M2 b→M b):bR M2 w' g n l s o:=by
 obtain ⟨t,q1,q2,q3,q4,q5⟩:=h;exact⟨t,q1.keep k fun hb=>q4 (h1 _ q1.lt hb),q2.keep k fun hb=>q5 (h1 _ q2.lt hb),q3,fun hb=>q4 (h2 _ q1.lt hb),fun hb=>q5 (h2 _ q2.lt hb)⟩
theorem bR.eO {n l:Int} (h:bR M w g n l s o) (k:aA Nil w w'):bR M w' g n l s o:=h.move k (fun _ _ h=>h.elim) fun _ _=>id
def dN (nodes limbs s o:Int) (xs:List (Bool × List Nat)):Int × Int × Int:=if o=0 then lD nodes limbs s xs else (s,o,o)
theorem aEP {M0:Nat→Prop} {n c:Nat} (hM:MB M w) (hM0:MB M0 w) (h:bR M0 w g nodes limbs s o) (hx:Ints M w a n c xs) (hs0:0≤s) (hs:s≤nodes) (hn:nodes≤2000) :
  Calls prog 128 #[.pointer (some ⟨g,0,none⟩),.slice a n c] w fun r w'=>r=.returned (.int .i64 (dN nodes limbs s o xs).2.2)∧bR M0 w' g nodes limbs (dN nodes limbs s o xs).1 (dN nodes limbs s o xs).2.1∧aA (Go.Proofs.Q.One g) w w':=by
 have K:aA Nil w ((w.alloc (.cells #[.pointer (some ⟨g,0,none⟩)] 69)).alloc (.cells #[.slice a n c] 109)):=kOf;have H:=jJ (h.eO K);have hg:=h.lt;by_cases ho:o=0
 ·subst ho;have e:dN nodes limbs s 0 xs=lD nodes limbs s xs:=by simp [dN]
  rw [e];have cg:w.cell? ⟨g,0,none⟩=some (.int .i64 nodes):=by obtain ⟨t,h1,_⟩:=h;exact h1.cell 0
  have cg1:w.cell? ⟨g,1,none⟩=some (.int .i64 limbs):=by obtain ⟨t,h1,_⟩:=h;exact h1.cell 1
  have hst:=aUD (M:=M) (g:=g) (pl:=w.heap.size+1) (pm:=w.heap.size) (nodes:=nodes) (xs:=xs) (s:=s) (w:=((w.alloc (.cells #[.pointer (some ⟨g,0,none⟩)] 69)).alloc (.cells #[.slice a n c] 109))) (hM.keep K) zW zV zV
   zW (((aF.alloc (w:=w) (E:=69) (xs:=[.pointer (some ⟨g,0,none⟩)])).keep (M:=Nil) kOf id).cell 0) (K.eY hg id cg) (K.eY hg id cg1) (hx.eO K) hs0 hs hn
  have HS:=jJ hst;have HK:=jJ (aI K (hM0.keep K));clear hst K cg cg1 h e hx hM hM0;go_enter func128,ntmps128
  go_wp2_with (go_at_call 181;refine (bAF (x1:=(lD nodes limbs s xs).1) (x2:=(lD nodes limbs s xs).2.1) (x3:=(lD nodes limbs s xs).2.2) rfl HK.o.2 H.o HS.o).mono ?_;rintro e w' ⟨rfl,hm,hk⟩)
  go_ret
  exact⟨rfl,hm,HK.o.1.of_nil.trans hk⟩
 ·have e:dN nodes limbs s o xs=(s,o,o):=by simp [dN,ho]
  rw [e];have HK:=jJ K;clear K h e hx hM hM0;go_enter func128,ntmps128
  go_wp2_with (go_at_call 181;refine (aUF H.o ho).mono ?_;rintro e w' ⟨rfl,rfl⟩)
  go_ret
  exact⟨rfl,H.o,HK.o.of_nil⟩
end
end Go.Proofs.Q
