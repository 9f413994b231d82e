/- What arena.key does at an atom's node. -/
import Derived.Test.YtgeklmkfjkenlaaGreatDoorNKey
set_option linter.unusedSimpArgs false
set_option linter.unusedVariables false
set_option maxRecDepth 100000
set_option maxHeartbeats 4000000
namespace Go.Proofs.Q
open Go.RowKit Go.Maps Tryz
section
variable {l:List Nat} {w:World} {P:Program} {E:TypeId} {B:Nat} {zs:List Int} {k:IntKind} {v:Value}
def Byt (l:List Nat):Prop:=∀b∈l,b<256
theorem Byt.append {m:List Nat} (h:Byt l) (k:Byt m):Byt (l++m):=fun b hb=>(jZ1.1 hb).elim (h b) (k b)
theorem byt_nats (l:List UInt8):Byt (nats l):=fun b hb=>by obtain ⟨x,_,rfl⟩:=iZ2.1 hb;exact x.toNat_lt
theorem byt_itoaN (i:Int):Byt (bB i):=byt_nats _
theorem byt_d36 (u:Nat):Byt (d36 u):=by
 induction u using Nat.strongRecOn with
 | ind u ih=>
  have hd:∀d,d<36→dg36 d<256:=fun d h=>by unfold dg36;split<;>omega
  by_cases hu:u<36
  ·rw [d36_small hu];intro b hb;rw [dZ1.1 hb];exact hd u hu
  ·rw [d36_big hu];exact (ih (u / 36) (by omega)).append fun b hb=>by rw [dZ1.1 hb];exact hd _ (Nat.mod_lt _ (by omega))
theorem byt_magTxt (l:List Nat):Byt (magTxt l):=fun b hb=>by
 obtain ⟨x,_,h⟩:=dZ3.1 hb;rcases mZ1.1 h with rfl|h
 ·omega
 ·exact byt_d36 x b h
theorem byt_numTxt (z:Int):Byt (dP z):=fun b hb=>by
 rcases mZ1.1 hb with rfl|hb
 ·omega
 ·rcases jZ1.1 hb with hb|hb
  ·split at hb
   ·rw [dZ1.1 hb];omega
   ·cases hb
  ·rcases jZ1.1 hb with hb|hb
   ·exact byt_magTxt _ b hb
   ·rw [dZ1.1 hb];omega
theorem byt_partsTxt (l:aM):Byt (bZ l):=fun b hb=>by
 obtain ⟨p,_,h⟩:=dZ3.1 hb;exact ((byt_itoaN p.1).append (byt_numTxt p.2)) b h
theorem dC (z:Int):(dP z).length≤3+32*nlen z.natAbs:=by
 have h1:=length_magTxt (bC z.natAbs) (fun x hx=>small_limbsOf z.natAbs x hx);have h2:nlen z.natAbs=(bC z.natAbs).length:=rfl;rw [dP,gZ1,aZ1,aZ1];have h3:(if neg z=true then [45] else ([]:List Nat)).length≤1:=by split<;>simp
 simp only [gZ1,gZ2];omega
def bulkP:aM→Nat
 | []=>0
 | p::l=>24+32*nlen p.2.natAbs+bulkP l
theorem bulkP_append:∀(l m:aM),bulkP (l++m)=bulkP l+bulkP m
 | [],m=>by simp [bulkP]
 | p::l,m=>by rw [fZ3,bulkP,bulkP,bulkP_append l m];omega
theorem partsTxt_snoc (l:aM) (p:Int × Int):bZ (l++[p])=bZ l++(bB p.1++dP p.2):=by simp [bZ]
theorem length_partsTxt:∀(l:aM),(∀p∈l,-9223372036854775808≤p.1∧p.1≤9223372036854775807)→(bZ l).length≤bulkP l
 | [],_=>by simp [bZ]
 | p::l,h=>by
  have h1:=length_partsTxt l fun y hy=>h y (lZ1 _ hy);have h2:=bI (h p (kZ1 ..)).1 (h p (kZ1 ..)).2;have h3:=dC p.2;rw [show bZ (p::l)=(bB p.1++dP p.2)++bZ l from rfl,aZ1,aZ1,bulkP];omega
theorem nats_ofNat (h:Byt l):nats (l.map UInt8.ofNat)=l:=by
 unfold nats;rw [List.map_map];conv=>rhs;rw [←List.map_id l]
 exact List.map_congr_left fun x hx=>by have:=h x hx;simp;omega
theorem ownB_conv (hl:Byt l) (hB:B≤w.heap.size) (hm:l.length≤maxLen) :
  OwnB (w.drew.alloc (.cells (bytesRow (strOf l) (grownCap w (strOf l).size 0 E)) E ((bytesRow (strOf l) (grownCap w (strOf l).size 0 E)).size,(bytesRow (strOf l) (grownCap w (strOf l).size 0 E)).size+1))) B E (.slice (some ⟨w.heap.size,0,none⟩) (strOf l).size (grownCap w (strOf l).size 0 E)) l:=by
 have hge:=grownCap_ge w (strOf l).size 0 E;have hle:=grownCap_le_maxLen w (strOf l).size 0 E (by rw [aR];exact hm);rw [aR] at hge hle⊢;refine .inr ⟨w.heap.size,_,_,_,rfl,hB,heap_alloc_new w.drew _,.inr (bZ2 _),hge,hle,?_,?_⟩
 ·simp [bytesRow,strOf,ByteArray.size];omega
 ·have hb:(strOf l).data.toList.map (fun b=>Value.int .u8 (b.toNat:Int))=l.map byteV:=by
   rw [show (strOf l).data.toList=l.map UInt8.ofNat by simp [strOf],←nats_byteV,nats_ofNat hl]
  simp only [bytesRow,Array.toList_append,Array.toList_map];rw [List.take_left' (by simp [strOf])];exact hb
theorem OwnB.text (h:OwnB w B E v l) (hl:Byt l) (h0:l≠[]) (src dst:TypeId) (hs:P.underlying src=some (.slice E)) (he:P.underlying E=some (.int .u8)) (hd:P.underlying dst=some .string) :
  (convert src dst v).run P w=.ok (.string (strOf l)) w:=by
 have hc:=fun g=>h.cells (g:=g);rcases h with ⟨rfl,rfl⟩|⟨g,cap,cur,fz,rfl,-⟩
 ·exact absurd rfl h0
 ·have h1:=run_convert_bytes_back (P:=P) w src dst E ⟨g,0,none⟩ cap (l.map UInt8.ofNat) hs he hd fun j hj=>by
   refine hc g rfl j _ ?_;have e:=nats_byteV (l.map UInt8.ofNat);rw [nats_ofNat hl] at e;rw [e,List.getElem?_map,jZ2 hj];rfl
  rw [hZ1] at h1;exact h1
theorem tab_up {B':Nat} {name:String} (h:Lib.TabBelow P B w name k zs) (hB:B≤B'):Lib.TabBelow P B' w name k zs:=fun w' hb=>h w' ⟨hb.os,hb.tape,hb.output,hb.size,fun j hj=>hb.block j (cZ1 hj hB)⟩
end
section
variable {w:World} {B:Nat} {v d z:Int} {l:aM} {gd gk:Bool} {ad ap ak aq:Option Addr}
theorem key2 {nd cd np cp nk ck nq cq:Nat} {q:List Int} (hT:Tab B w) (h:NodeAt Nil w gd ad nd cd ap np cp gk ak nk ck aq nq cq ⟨2,d,⟨l,z⟩,v,q⟩) (hroom:32*nlen d.natAbs+32*nlen z.natAbs+bulkP l≤70368744177000) :
  Calls prog 143 #[.agg #[.int .i64 2,.bool gd,.slice ad nd cd,.slice ap np cp,.bool gk,.slice ak nk ck,.int .i64 v,.slice aq nq cq]] w fun e w'=>e=.returned (.string (strOf (bA ⟨2,d,⟨l,z⟩,v,q⟩)))∧aA Nil w w':=by
 have hkt:bA ⟨2,d,⟨l,z⟩,v,q⟩=bB 2++[32]++(dP d++dP z++bZ l):=by
  unfold bA;simp only;rw [if_pos (by simp)]
 have hkI:I64 2:=by unfold I64;omega
 have hzd:ZN (From w.heap.size) w gd ad nd cd d:=h.d.move (aA.refl Nil w) (fun _ _ h=>h.elim) fun b hb hf=>by unfold From at hf;omega
 have hzk:ZN (From w.heap.size) w gk ak nk ck z:=h.t.2.move (aA.refl Nil w) (fun _ _ h=>h.elim) fun b hb hf=>by unfold From at hf;omega
 have hp:cQ (From w.heap.size) (From w.heap.size) w ap np cp l:=h.t.1.move (M1':=From w.heap.size) (M2':=From w.heap.size) (aA.refl Nil w) (fun _ _ h=>h.elim) (fun b hb hf=>by unfold From at hf;omega) (fun _ _ h=>h.elim) fun b hb hf=>by unfold From at hf;omega
 have HA:=jJ (aI7 hT hzd hkI hkt hzk hp hroom);clear hT h hkI hkt hzd hzk hp hroom;go_enter func143,ntmps143
 go_upto_region 1 with (fail)
 obtain ⟨w0,e_1,k0,r0⟩:=bx1 w 68 [.int .i64 2,.bool gd,.slice ad nd cd,.slice ap np cp,.bool gk,.slice ak nk ck,.int .i64 v,.slice aq nq cq];rw [e_1];clear e_1;have H0:=jJ (aI k0 r0);have c0:w0.cell? ⟨w.heap.size,0,none⟩=some (.int .i64 2):=r0.cell 0;have hs0:(strOf (bB 2)).size≤21:=by rw [aR];exact bI HA.o.2.2.1.1 HA.o.2.2.1.2
 clear k0 r0;go_upto_region 2 with (go_at_call 190;refine (itoa_any HA.o.2.2.1 (HA.o.1.keepNil H0.o.1)).mono ?_;rintro e w1 ⟨rfl,hk1⟩;have r1:=H0.o.2.keep hk1 id;have d0:w1.cell? ⟨w.heap.size,0,none⟩=some (.int .i64 2):=r1.cell 0;have H1:=jJ (aI hk1 r1);clear hk1 r1)
 rw [show strOf (bB 2)++(⟨#[32]⟩:ByteArray)=strOf (bB 2++[32]) from bF _ [32]];obtain ⟨t0,ht0⟩:∃t,t=bB 2++[32]:=⟨_,rfl⟩;rw [←ht0];have hs1:t0.length≤22:=by rw [ht0,aZ1];rw [aR] at hs0;simp;omega
 have hb0:Byt t0:=by rw [ht0];exact (byt_itoaN _).append fun b hb=>by rw [dZ1.1 hb];omega
 have hne0:t0≠[]:=by rw [ht0];simp
 have hcv:=run_bytes_of_string (P:=prog) w1 9 217 5 (strOf t0) underlying9 underlying217 underlying5;have hw1:w.heap.size≤w1.heap.size:=(H0.o.1.trans H1.o.1).size;have hown:=ownB_conv (w:=w1) (B:=w.heap.size) (E:=5) hb0 hw1 (by unfold maxLen;omega);have hk2:aA Nil w1 (w1.drew.alloc (.cells (bytesRow (strOf t0) (grownCap w1 (strOf t0).size 0 5)) 5 ((bytesRow (strOf t0) (grownCap w1 (strOf t0).size 0 5)).size,(bytesRow (strOf t0) (grownCap w1 (strOf t0).size 0 5)).size+1))):=((aA.refl Nil w1).drew).alloc _;generalize w1.drew.alloc (.cells (bytesRow (strOf t0) (grownCap w1 (strOf t0).size 0 5)) 5 ((bytesRow (strOf t0) (grownCap w1 (strOf t0).size 0 5)).size,(bytesRow (strOf t0) (grownCap w1 (strOf t0).size 0 5)).size+1))=w2 at *
 generalize Value.slice (some ⟨w1.heap.size,0,none⟩) (strOf t0).size (grownCap w1 (strOf t0).size 0 5)=v2 at *
 have r2:=H1.o.2.keep hk2 id;have e1:w2.cell? ⟨w.heap.size,1,none⟩=some (.bool gd):=r2.cell 1;have e2:w2.cell? ⟨w.heap.size,2,none⟩=some (.slice ad nd cd):=r2.cell 2;have kw2:=(H0.o.1.trans H1.o.1).trans hk2;have HT0:=jJ (aI4 ht0 hs1 hb0 hne0);have H2:=jJ (aI3 hown kw2 r2);have HC:=jJ hcv;clear ht0 hs0 c0 hs1 hb0 hne0 hcv hown hk2 r2 kw2;go_upto_region 6 with fail
 go_wp2_with fail
 rw [HC.o];have HN:=jJ (cZ1 (show w.heap.size<w.heap.size+1 by omega) (show w.heap.size+1≤w2.heap.size by have:=H2.o.2.2.lt;omega));go_upto_region 7 with (go_at_call 191;go_loud (refine (limbs_txt (B:=w.heap.size) H2.o.1 H2.o.2.1.size (HA.o.2.1.move H2.o.2.1 (fun _ _ h=>h.elim) fun _ _ h=>h) (by have h1:=HA.o.r6;have h2:=HT0.o.2.1;omega)).mono ?_;rintro e w3 ⟨v3,rfl,hp⟩;have r3:=H2.o.2.2.keep hp.keep (H2.o.1.ne H2.o.2.2 (by decide));have f4:w3.cell? ⟨w.heap.size,4,none⟩=some (.bool gk):=r3.cell 4;have f5:w3.cell? ⟨w.heap.size,5,none⟩=some (.slice ak nk ck):=r3.cell 5;have hfr:∀b,v2.ownBlock=some b→w.heap.size≤b:=(fun b hb=>(H2.o.1.lt b hb).1);have k3:aA Nil w w3:=H2.o.2.1.newer hp.keep hfr;have H3:=jJ (aI3 hp.own k3 r3);clear hp r3 hfr k3))
 go_upto_region 8 with (go_at_call 191;go_loud (refine (limbs_txt (B:=w.heap.size) H3.o.1 H3.o.2.1.size (HA.o.r4.1.move H3.o.2.1 (fun _ _ h=>h.elim) fun _ _ h=>h) (by have h1:=HA.o.r6;have h2:=HT0.o.2.1;have h3:=dC d;rw [aZ1];omega)).mono ?_;rintro e w4 ⟨v4,rfl,hp⟩;have r4:=H3.o.2.2.keep hp.keep (H3.o.1.ne H3.o.2.2 (by decide));have g3:w4.cell? ⟨w.heap.size,3,none⟩=some (.slice ap np cp):=r4.cell 3;have k4:aA Nil w w4:=H3.o.2.1.newer hp.keep (fun b hb=>(H3.o.1.lt b hb).1);have H4:=jJ (aI3 hp.own k4 r4);clear hp r4 k4))
 clear e1 e2 f4 f5 d0;obtain ⟨t1,ht1⟩:∃t,t=t0++dP d++dP z:=⟨_,rfl⟩;have h4:=H4.o;rw [←ht1] at h4;have hl1:t1.length≤28+32*nlen d.natAbs+32*nlen z.natAbs:=by have h2:=HT0.o.2.1;have h3:=dC d;have h5:=dC z;rw [ht1,aZ1,aZ1];omega
 have hb1:Byt t1:=by rw [ht1];exact (HT0.o.2.2.1.append (byt_numTxt d)).append (byt_numTxt z)
 have hne1:t1≠[]:=by rw [ht1];have:=HT0.o.2.2.2;simp [this]
 have hkt:bA ⟨2,d,⟨l,z⟩,v,q⟩=t1++bZ l:=by rw [HA.o.2.2.2.1,ht1,HT0.o.1];simp
 have hlen:l.length=np:=SlOf.len HA.o.r5.1;have hle:=(HA.o.r5.1.ex.elim fun f h=>h.1.le);have hcap:=(HA.o.r5.1.ex.elim fun f h=>h.1.cap);have hI:∀p∈l,-9223372036854775808≤p.1∧p.1≤9223372036854775807:=fun p hp=>by
  obtain ⟨i,hi,rfl⟩:=hZ3 hp;obtain ⟨_,_,_,_,_,_,_,_,_,_,_,_,_,h1,h2⟩:=HA.o.r5.1.at (i:=i) (by omega);rw [pth_lt hi] at h1 h2;exact⟨h1,h2⟩
 have HT1:=jJ (aI6 hl1 hb1 hne1 hkt hlen hI);have HX:=jJ (aI h4.1 h4.2.1);clear h4 hl1 hb1 hne1 hkt ht1 hlen hI H4;go_wp2_with fail
 go_loopw [4,33] (fun u i wr=>∃n:Nat,i=.int .i64 n∧n≤np∧OwnB wr w.heap.size 5 u (t1++bZ (l.take n))∧aA Nil w wr) (fun _ i _=>np-(intOf i).toNat)
 case atStart=>exact⟨0,rfl,aZ2 _,by rw [List.take_zero,show bZ []=[] from rfl,fZ2];exact HX.o.1,HX.o.2⟩
 case round=>
  obtain ⟨n,rfl,hn1,hown,hkr⟩:=hrel;obtain ⟨t2,ht2⟩:∃t,t=t1++bZ (l.take n):=⟨_,rfl⟩;rw [←ht2] at hown;have hl2:t2.length≤t1.length+bulkP (l.take n):=by
   rw [ht2,aZ1];have:=length_partsTxt (l.take n) fun p hp=>HT1.o.r5 p (bZ3 hp);omega
  have hne2:t2≠[]:=by rw [ht2];have:=HT1.o.2.2.1;simp [this]
  have HK:=jJ (aI5 ht2 hown hkr hl2 hne2);clear ht2 hown hkr hl2 hne2;by_cases hnp:n<np
  ·obtain ⟨b,off,g',a',n',c',rfl,hb,-,x0,x1,x2,hzz,i1',i2'⟩:=(HA.o.r5.1.move (M1':=From w.heap.size) (M2':=From w.heap.size) HK.o.2.2.1 (fun _ _ h=>h.elim) (fun _ _ h=>h) (fun _ _ h=>h.elim) fun _ _ h=>h).at hnp;have htk:l.take (n+1)=l.take n++[pth l n]:=by
    have h1:n<l.length:=by rw [HT1.o.r4.1];exact hnp
    rw [List.take_succ_eq_append_getElem h1,pth_lt h1]
   have hbk:bulkP (l.take n)+(24+32*nlen (pth l n).2.natAbs)≤bulkP l:=by
    have h1:=congrArg bulkP htk;rw [bulkP_append] at h1;have h2:=congrArg bulkP (aZ3 (n+1) l);rw [bulkP_append] at h2;simp only [bulkP] at h1;omega
   have HZ:=jJ (aI3 htk hbk hzz);clear htk hbk hzz;generalize pth l n=p at *
   obtain ⟨x,y⟩:=p;simp only at x0 i1' i2';go_upto_region 11 with fail
   have r6:aC (wr.alloc (.cells #[.int .i64 x,.bool g',.slice a' n' c'] 117)) wr.heap.size 117 [.int .i64 x,.bool g',.slice a' n' c']:=aC.alloc;have k6:aA Nil wr (wr.alloc (.cells #[.int .i64 x,.bool g',.slice a' n' c'] 117)):=kOf;generalize wr.alloc (.cells #[.int .i64 x,.bool g',.slice a' n' c'] 117)=wp at *
   have h6:=HK.o.2.1.keepNil k6;have hT6:=tab_up (HA.o.1.keepNil (HK.o.2.2.1.trans k6)).2 (B':=w.heap.size) HA.o.1.1;have hz6:=HZ.o.2.2.move (M2:=From w.heap.size) k6 (fun _ _ h=>h.elim) fun _ _ h=>h;have hs6:=(HK.o.2.2.1.trans k6).size;have hl6:t2.length+(24+32*nlen y.natAbs)≤70368744177100:=by have h1:=HK.o.2.2.2.1;have h2:=HZ.o.2.1;have h3:=HT1.o.1;have h4:=HA.o.r6;simp only at h2;omega
   obtain ⟨x0',x1',x2'⟩:=r6.three;have H6:=jJ (aI7 r6 k6 h6 hT6 hz6 hs6 hl6);clear r6 k6 h6 hT6 hz6 hs6 hl6 x0 x1 x2;go_region_held3 (fun w'=>w'.cell? ⟨wr.heap.size,0,none⟩=some (.int .i64 x)∧w'.cell? ⟨wr.heap.size,1,none⟩=some (.bool g')∧w'.cell? ⟨wr.heap.size,2,none⟩=some (.slice a' n' c')) (go_keep) ((first|(go_at_call 192;go_loud (refine (appendI_any (B:=w.heap.size) x i1' i2' (H6.o.2.2.1.keepNil ((aA.refl Nil wp).drew)) H6.o.r5.1 (by have h1:=H6.o.r6;omega) HK.o.r4 (H6.o.2.2.2.1.on (below_of ((aA.refl Nil wp).drew) (fun _ h=>h.elim) H6.o.r5.1))).mono ?_;rintro e w5 ⟨v5,rfl,hp5⟩;have r7:=(H6.o.1.keep ((aA.refl Nil wp).drew) id).keep hp5.keep ((H6.o.2.2.1.keepNil ((aA.refl Nil wp).drew)).ne (H6.o.1.keep ((aA.refl Nil wp).drew) id) (by decide));obtain ⟨y0,y1,y2⟩:=r7.three;have k5:aA Nil w w5:=(HK.o.2.2.1.trans (H6.o.2.1.trans (aA.refl Nil wp).drew)).newer hp5.keep (fun b hb=>(H6.o.2.2.1.lt b hb).1);have H5:=jJ (aI4 hp5.own k5 r7 (H6.o.r4.1.move (M2:=From w.heap.size) (((aA.refl Nil wp).drew.of_nil (M:=From w.heap.size)).trans (hp5.keep.mono (fun b hb=>(H6.o.2.2.1.lt b hb).1))) (fun _ _ h=>h) fun _ _ h=>h));clear hp5 r7 k5))|(go_at_call 191;go_loud (refine (limbs_txt (B:=w.heap.size) H5.o.1 H5.o.2.1.size H5.o.2.2.2 (by have h1:=H6.o.r6;have h2:=bI i1' i2';rw [aZ1];omega)).mono ?_;rintro e w8 ⟨v8,rfl,hp8⟩;have r8:=H5.o.2.2.1.keep hp8.keep (H5.o.1.ne H5.o.2.2.1 (by decide));obtain ⟨z0,z1,z2⟩:=r8.three;have k8:aA Nil w w8:=H5.o.2.1.newer hp8.keep (fun b hb=>(H5.o.1.lt b hb).1);have H8:=jJ (aI hp8.own k8);clear hp8 r8 k8))))
   all_goals
    go_wp2
    go_roundw
    case rel=>
     refine ⟨n+1,by go_num,hnp,?_,H8.o.2⟩;rw [HZ.o.1,partsTxt_snoc,←mZ2,←HK.o.1,←mZ2];exact H8.o.1
    case measure=>simp [intOf];omega
  ·have en:np=n:=by omega
   have hcb:=OwnB.text (P:=prog) HK.o.2.1 (by rw [HK.o.1];exact HT1.o.2.1.append (byt_partsTxt _)) HK.o.r4 217 9 underlying217 underlying5 underlying9;have HCB:=jJ hcb;clear hcb;go_wp2_with fail
   rw [HCB.o];go_wp2
   go_ret
   refine ⟨?_,HK.o.2.2.1⟩;rw [HT1.o.2.2.2.1,HK.o.1,eZ1 (by rw [HT1.o.r4.1];omega)];rfl
theorem key3 {nd cd np cp nk ck nq cq:Nat} {q:List Int} (hT:Tab B w) (h:NodeAt Nil w gd ad nd cd ap np cp gk ak nk ck aq nq cq ⟨3,d,⟨l,z⟩,v,q⟩) (hroom:32*nlen d.natAbs+32*nlen z.natAbs+bulkP l≤70368744177000) :
  Calls prog 143 #[.agg #[.int .i64 3,.bool gd,.slice ad nd cd,.slice ap np cp,.bool gk,.slice ak nk ck,.int .i64 v,.slice aq nq cq]] w fun e w'=>e=.returned (.string (strOf (bA ⟨3,d,⟨l,z⟩,v,q⟩)))∧aA Nil w w':=by
 have hkt:bA ⟨3,d,⟨l,z⟩,v,q⟩=bB 3++[32]++(dP d++dP z++bZ l):=by
  unfold bA;simp only;rw [if_pos (by simp)]
 have hkI:I64 3:=by unfold I64;omega
 have hzd:ZN (From w.heap.size) w gd ad nd cd d:=h.d.move (aA.refl Nil w) (fun _ _ h=>h.elim) fun b hb hf=>by unfold From at hf;omega
 have hzk:ZN (From w.heap.size) w gk ak nk ck z:=h.t.2.move (aA.refl Nil w) (fun _ _ h=>h.elim) fun b hb hf=>by unfold From at hf;omega
 have hp:cQ (From w.heap.size) (From w.heap.size) w ap np cp l:=h.t.1.move (M1':=From w.heap.size) (M2':=From w.heap.size) (aA.refl Nil w) (fun _ _ h=>h.elim) (fun b hb hf=>by unfold From at hf;omega) (fun _ _ h=>h.elim) fun b hb hf=>by unfold From at hf;omega
 have HA:=jJ (aI7 hT hzd hkI hkt hzk hp hroom);clear hT h hkI hkt hzd hzk hp hroom;go_enter func143,ntmps143
 go_upto_region 1 with (fail)
 obtain ⟨w0,e_2,k0,r0⟩:=bx1 w 68 [.int .i64 3,.bool gd,.slice ad nd cd,.slice ap np cp,.bool gk,.slice ak nk ck,.int .i64 v,.slice aq nq cq];rw [e_2];clear e_2;have H0:=jJ (aI k0 r0);have c0:w0.cell? ⟨w.heap.size,0,none⟩=some (.int .i64 3):=r0.cell 0;have hs0:(strOf (bB 3)).size≤21:=by rw [aR];exact bI HA.o.2.2.1.1 HA.o.2.2.1.2
 clear k0 r0;go_upto_region 2 with (go_at_call 190;refine (itoa_any HA.o.2.2.1 (HA.o.1.keepNil H0.o.1)).mono ?_;rintro e w1 ⟨rfl,hk1⟩;have r1:=H0.o.2.keep hk1 id;have d0:w1.cell? ⟨w.heap.size,0,none⟩=some (.int .i64 3):=r1.cell 0;have H1:=jJ (aI hk1 r1);clear hk1 r1)
 rw [show strOf (bB 3)++(⟨#[32]⟩:ByteArray)=strOf (bB 3++[32]) from bF _ [32]];obtain ⟨t0,ht0⟩:∃t,t=bB 3++[32]:=⟨_,rfl⟩;rw [←ht0];have hs1:t0.length≤22:=by rw [ht0,aZ1];rw [aR] at hs0;simp;omega
 have hb0:Byt t0:=by rw [ht0];exact (byt_itoaN _).append fun b hb=>by rw [dZ1.1 hb];omega
 have hne0:t0≠[]:=by rw [ht0];simp
 have hcv:=run_bytes_of_string (P:=prog) w1 9 217 5 (strOf t0) underlying9 underlying217 underlying5;have hw1:w.heap.size≤w1.heap.size:=(H0.o.1.trans H1.o.1).size;have hown:=ownB_conv (w:=w1) (B:=w.heap.size) (E:=5) hb0 hw1 (by unfold maxLen;omega);have hk2:aA Nil w1 (w1.drew.alloc (.cells (bytesRow (strOf t0) (grownCap w1 (strOf t0).size 0 5)) 5 ((bytesRow (strOf t0) (grownCap w1 (strOf t0).size 0 5)).size,(bytesRow (strOf t0) (grownCap w1 (strOf t0).size 0 5)).size+1))):=((aA.refl Nil w1).drew).alloc _;generalize w1.drew.alloc (.cells (bytesRow (strOf t0) (grownCap w1 (strOf t0).size 0 5)) 5 ((bytesRow (strOf t0) (grownCap w1 (strOf t0).size 0 5)).size,(bytesRow (strOf t0) (grownCap w1 (strOf t0).size 0 5)).size+1))=w2 at *
 generalize Value.slice (some ⟨w1.heap.size,0,none⟩) (strOf t0).size (grownCap w1 (strOf t0).size 0 5)=v2 at *
 have r2:=H1.o.2.keep hk2 id;have e1:w2.cell? ⟨w.heap.size,1,none⟩=some (.bool gd):=r2.cell 1;have e2:w2.cell? ⟨w.heap.size,2,none⟩=some (.slice ad nd cd):=r2.cell 2;have kw2:=(H0.o.1.trans H1.o.1).trans hk2;have HT0:=jJ (aI4 ht0 hs1 hb0 hne0);have H2:=jJ (aI3 hown kw2 r2);have HC:=jJ hcv;clear ht0 hs0 c0 hs1 hb0 hne0 hcv hown hk2 r2 kw2;go_upto_region 6 with fail
 go_wp2_with fail
 rw [HC.o];have HN:=jJ (cZ1 (show w.heap.size<w.heap.size+1 by omega) (show w.heap.size+1≤w2.heap.size by have:=H2.o.2.2.lt;omega));go_upto_region 7 with (go_at_call 191;go_loud (refine (limbs_txt (B:=w.heap.size) H2.o.1 H2.o.2.1.size (HA.o.2.1.move H2.o.2.1 (fun _ _ h=>h.elim) fun _ _ h=>h) (by have h1:=HA.o.r6;have h2:=HT0.o.2.1;omega)).mono ?_;rintro e w3 ⟨v3,rfl,hp⟩;have r3:=H2.o.2.2.keep hp.keep (H2.o.1.ne H2.o.2.2 (by decide));have f4:w3.cell? ⟨w.heap.size,4,none⟩=some (.bool gk):=r3.cell 4;have f5:w3.cell? ⟨w.heap.size,5,none⟩=some (.slice ak nk ck):=r3.cell 5;have hfr:∀b,v2.ownBlock=some b→w.heap.size≤b:=(fun b hb=>(H2.o.1.lt b hb).1);have k3:aA Nil w w3:=H2.o.2.1.newer hp.keep hfr;have H3:=jJ (aI3 hp.own k3 r3);clear hp r3 hfr k3))
 go_upto_region 8 with (go_at_call 191;go_loud (refine (limbs_txt (B:=w.heap.size) H3.o.1 H3.o.2.1.size (HA.o.r4.1.move H3.o.2.1 (fun _ _ h=>h.elim) fun _ _ h=>h) (by have h1:=HA.o.r6;have h2:=HT0.o.2.1;have h3:=dC d;rw [aZ1];omega)).mono ?_;rintro e w4 ⟨v4,rfl,hp⟩;have r4:=H3.o.2.2.keep hp.keep (H3.o.1.ne H3.o.2.2 (by decide));have g3:w4.cell? ⟨w.heap.size,3,none⟩=some (.slice ap np cp):=r4.cell 3;have k4:aA Nil w w4:=H3.o.2.1.newer hp.keep (fun b hb=>(H3.o.1.lt b hb).1);have H4:=jJ (aI3 hp.own k4 r4);clear hp r4 k4))
 clear e1 e2 f4 f5 d0;obtain ⟨t1,ht1⟩:∃t,t=t0++dP d++dP z:=⟨_,rfl⟩;have h4:=H4.o;rw [←ht1] at h4;have hl1:t1.length≤28+32*nlen d.natAbs+32*nlen z.natAbs:=by have h2:=HT0.o.2.1;have h3:=dC d;have h5:=dC z;rw [ht1,aZ1,aZ1];omega
 have hb1:Byt t1:=by rw [ht1];exact (HT0.o.2.2.1.append (byt_numTxt d)).append (byt_numTxt z)
 have hne1:t1≠[]:=by rw [ht1];have:=HT0.o.2.2.2;simp [this]
 have hkt:bA ⟨3,d,⟨l,z⟩,v,q⟩=t1++bZ l:=by rw [HA.o.2.2.2.1,ht1,HT0.o.1];simp
 have hlen:l.length=np:=SlOf.len HA.o.r5.1;have hle:=(HA.o.r5.1.ex.elim fun f h=>h.1.le);have hcap:=(HA.o.r5.1.ex.elim fun f h=>h.1.cap);have hI:∀p∈l,-9223372036854775808≤p.1∧p.1≤9223372036854775807:=fun p hp=>by
  obtain ⟨i,hi,rfl⟩:=hZ3 hp;obtain ⟨_,_,_,_,_,_,_,_,_,_,_,_,_,h1,h2⟩:=HA.o.r5.1.at (i:=i) (by omega);rw [pth_lt hi] at h1 h2;exact⟨h1,h2⟩
 have HT1:=jJ (aI6 hl1 hb1 hne1 hkt hlen hI);have HX:=jJ (aI h4.1 h4.2.1);clear h4 hl1 hb1 hne1 hkt ht1 hlen hI H4;go_wp2_with fail
 go_loopw [4,33] (fun u i wr=>∃n:Nat,i=.int .i64 n∧n≤np∧OwnB wr w.heap.size 5 u (t1++bZ (l.take n))∧aA Nil w wr) (fun _ i _=>np-(intOf i).toNat)
 case atStart=>exact⟨0,rfl,aZ2 _,by rw [List.take_zero,show bZ []=[] from rfl,fZ2];exact HX.o.1,HX.o.2⟩
 case round=>
  obtain ⟨n,rfl,hn1,hown,hkr⟩:=hrel;obtain ⟨t2,ht2⟩:∃t,t=t1++bZ (l.take n):=⟨_,rfl⟩;rw [←ht2] at hown;have hl2:t2.length≤t1.length+bulkP (l.take n):=by
   rw [ht2,aZ1];have:=length_partsTxt (l.take n) fun p hp=>HT1.o.r5 p (bZ3 hp);omega
  have hne2:t2≠[]:=by rw [ht2];have:=HT1.o.2.2.1;simp [this]
  have HK:=jJ (aI5 ht2 hown hkr hl2 hne2);clear ht2 hown hkr hl2 hne2;by_cases hnp:n<np
  ·obtain ⟨b,off,g',a',n',c',rfl,hb,-,x0,x1,x2,hzz,i1',i2'⟩:=(HA.o.r5.1.move (M1':=From w.heap.size) (M2':=From w.heap.size) HK.o.2.2.1 (fun _ _ h=>h.elim) (fun _ _ h=>h) (fun _ _ h=>h.elim) fun _ _ h=>h).at hnp;have htk:l.take (n+1)=l.take n++[pth l n]:=by
    have h1:n<l.length:=by rw [HT1.o.r4.1];exact hnp
    rw [List.take_succ_eq_append_getElem h1,pth_lt h1]
   have hbk:bulkP (l.take n)+(24+32*nlen (pth l n).2.natAbs)≤bulkP l:=by
    have h1:=congrArg bulkP htk;rw [bulkP_append] at h1;have h2:=congrArg bulkP (aZ3 (n+1) l);rw [bulkP_append] at h2;simp only [bulkP] at h1;omega
   have HZ:=jJ (aI3 htk hbk hzz);clear htk hbk hzz;generalize pth l n=p at *
   obtain ⟨x,y⟩:=p;simp only at x0 i1' i2';go_upto_region 11 with fail
   have r6:aC (wr.alloc (.cells #[.int .i64 x,.bool g',.slice a' n' c'] 117)) wr.heap.size 117 [.int .i64 x,.bool g',.slice a' n' c']:=aC.alloc;have k6:aA Nil wr (wr.alloc (.cells #[.int .i64 x,.bool g',.slice a' n' c'] 117)):=kOf;generalize wr.alloc (.cells #[.int .i64 x,.bool g',.slice a' n' c'] 117)=wp at *
   have h6:=HK.o.2.1.keepNil k6;have hT6:=tab_up (HA.o.1.keepNil (HK.o.2.2.1.trans k6)).2 (B':=w.heap.size) HA.o.1.1;have hz6:=HZ.o.2.2.move (M2:=From w.heap.size) k6 (fun _ _ h=>h.elim) fun _ _ h=>h;have hs6:=(HK.o.2.2.1.trans k6).size;have hl6:t2.length+(24+32*nlen y.natAbs)≤70368744177100:=by have h1:=HK.o.2.2.2.1;have h2:=HZ.o.2.1;have h3:=HT1.o.1;have h4:=HA.o.r6;simp only at h2;omega
   obtain ⟨x0',x1',x2'⟩:=r6.three;have H6:=jJ (aI7 r6 k6 h6 hT6 hz6 hs6 hl6);clear r6 k6 h6 hT6 hz6 hs6 hl6 x0 x1 x2;go_region_held3 (fun w'=>w'.cell? ⟨wr.heap.size,0,none⟩=some (.int .i64 x)∧w'.cell? ⟨wr.heap.size,1,none⟩=some (.bool g')∧w'.cell? ⟨wr.heap.size,2,none⟩=some (.slice a' n' c')) (go_keep) ((first|(go_at_call 192;go_loud (refine (appendI_any (B:=w.heap.size) x i1' i2' (H6.o.2.2.1.keepNil ((aA.refl Nil wp).drew)) H6.o.r5.1 (by have h1:=H6.o.r6;omega) HK.o.r4 (H6.o.2.2.2.1.on (below_of ((aA.refl Nil wp).drew) (fun _ h=>h.elim) H6.o.r5.1))).mono ?_;rintro e w5 ⟨v5,rfl,hp5⟩;have r7:=(H6.o.1.keep ((aA.refl Nil wp).drew) id).keep hp5.keep ((H6.o.2.2.1.keepNil ((aA.refl Nil wp).drew)).ne (H6.o.1.keep ((aA.refl Nil wp).drew) id) (by decide));obtain ⟨y0,y1,y2⟩:=r7.three;have k5:aA Nil w w5:=(HK.o.2.2.1.trans (H6.o.2.1.trans (aA.refl Nil wp).drew)).newer hp5.keep (fun b hb=>(H6.o.2.2.1.lt b hb).1);have H5:=jJ (aI4 hp5.own k5 r7 (H6.o.r4.1.move (M2:=From w.heap.size) (((aA.refl Nil wp).drew.of_nil (M:=From w.heap.size)).trans (hp5.keep.mono (fun b hb=>(H6.o.2.2.1.lt b hb).1))) (fun _ _ h=>h) fun _ _ h=>h));clear hp5 r7 k5))|(go_at_call 191;go_loud (refine (limbs_txt (B:=w.heap.size) H5.o.1 H5.o.2.1.size H5.o.2.2.2 (by have h1:=H6.o.r6;have h2:=bI i1' i2';rw [aZ1];omega)).mono ?_;rintro e w8 ⟨v8,rfl,hp8⟩;have r8:=H5.o.2.2.1.keep hp8.keep (H5.o.1.ne H5.o.2.2.1 (by decide));obtain ⟨z0,z1,z2⟩:=r8.three;have k8:aA Nil w w8:=H5.o.2.1.newer hp8.keep (fun b hb=>(H5.o.1.lt b hb).1);have H8:=jJ (aI hp8.own k8);clear hp8 r8 k8))))
   all_goals
    go_wp2
    go_roundw
    case rel=>
     refine ⟨n+1,by go_num,hnp,?_,H8.o.2⟩;rw [HZ.o.1,partsTxt_snoc,←mZ2,←HK.o.1,←mZ2];exact H8.o.1
    case measure=>simp [intOf];omega
  ·have en:np=n:=by omega
   have hcb:=OwnB.text (P:=prog) HK.o.2.1 (by rw [HK.o.1];exact HT1.o.2.1.append (byt_partsTxt _)) HK.o.r4 217 9 underlying217 underlying5 underlying9;have HCB:=jJ hcb;clear hcb;go_wp2_with fail
   rw [HCB.o];go_wp2
   go_ret
   refine ⟨?_,HK.o.2.2.1⟩;rw [HT1.o.2.2.2.1,HK.o.1,eZ1 (by rw [HT1.o.r4.1];omega)];rfl
theorem key4 {nd cd np cp nk ck nq cq:Nat} {q:List Int} (hT:Tab B w) (h:NodeAt Nil w gd ad nd cd ap np cp gk ak nk ck aq nq cq ⟨4,d,⟨l,z⟩,v,q⟩) (hroom:32*nlen d.natAbs+32*nlen z.natAbs+bulkP l≤70368744177000) :
  Calls prog 143 #[.agg #[.int .i64 4,.bool gd,.slice ad nd cd,.slice ap np cp,.bool gk,.slice ak nk ck,.int .i64 v,.slice aq nq cq]] w fun e w'=>e=.returned (.string (strOf (bA ⟨4,d,⟨l,z⟩,v,q⟩)))∧aA Nil w w':=by
 have hkt:bA ⟨4,d,⟨l,z⟩,v,q⟩=bB 4++[32]++(dP d++dP z++bZ l):=by
  unfold bA;simp only;rw [if_pos (by simp)]
 have hkI:I64 4:=by unfold I64;omega
 have hzd:ZN (From w.heap.size) w gd ad nd cd d:=h.d.move (aA.refl Nil w) (fun _ _ h=>h.elim) fun b hb hf=>by unfold From at hf;omega
 have hzk:ZN (From w.heap.size) w gk ak nk ck z:=h.t.2.move (aA.refl Nil w) (fun _ _ h=>h.elim) fun b hb hf=>by unfold From at hf;omega
 have hp:cQ (From w.heap.size) (From w.heap.size) w ap np cp l:=h.t.1.move (M1':=From w.heap.size) (M2':=From w.heap.size) (aA.refl Nil w) (fun _ _ h=>h.elim) (fun b hb hf=>by unfold From at hf;omega) (fun _ _ h=>h.elim) fun b hb hf=>by unfold From at hf;omega
 have HA:=jJ (aI7 hT hzd hkI hkt hzk hp hroom);clear hT h hkI hkt hzd hzk hp hroom;go_enter func143,ntmps143
 go_upto_region 1 with (fail)
 obtain ⟨w0,e_3,k0,r0⟩:=bx1 w 68 [.int .i64 4,.bool gd,.slice ad nd cd,.slice ap np cp,.bool gk,.slice ak nk ck,.int .i64 v,.slice aq nq cq];rw [e_3];clear e_3;have H0:=jJ (aI k0 r0);have c0:w0.cell? ⟨w.heap.size,0,none⟩=some (.int .i64 4):=r0.cell 0;have hs0:(strOf (bB 4)).size≤21:=by rw [aR];exact bI HA.o.2.2.1.1 HA.o.2.2.1.2
 clear k0 r0;go_upto_region 2 with (go_at_call 190;refine (itoa_any HA.o.2.2.1 (HA.o.1.keepNil H0.o.1)).mono ?_;rintro e w1 ⟨rfl,hk1⟩;have r1:=H0.o.2.keep hk1 id;have d0:w1.cell? ⟨w.heap.size,0,none⟩=some (.int .i64 4):=r1.cell 0;have H1:=jJ (aI hk1 r1);clear hk1 r1)
 rw [show strOf (bB 4)++(⟨#[32]⟩:ByteArray)=strOf (bB 4++[32]) from bF _ [32]];obtain ⟨t0,ht0⟩:∃t,t=bB 4++[32]:=⟨_,rfl⟩;rw [←ht0];have hs1:t0.length≤22:=by rw [ht0,aZ1];rw [aR] at hs0;simp;omega
 have hb0:Byt t0:=by rw [ht0];exact (byt_itoaN _).append fun b hb=>by rw [dZ1.1 hb];omega
 have hne0:t0≠[]:=by rw [ht0];simp
 have hcv:=run_bytes_of_string (P:=prog) w1 9 217 5 (strOf t0) underlying9 underlying217 underlying5;have hw1:w.heap.size≤w1.heap.size:=(H0.o.1.trans H1.o.1).size;have hown:=ownB_conv (w:=w1) (B:=w.heap.size) (E:=5) hb0 hw1 (by unfold maxLen;omega);have hk2:aA Nil w1 (w1.drew.alloc (.cells (bytesRow (strOf t0) (grownCap w1 (strOf t0).size 0 5)) 5 ((bytesRow (strOf t0) (grownCap w1 (strOf t0).size 0 5)).size,(bytesRow (strOf t0) (grownCap w1 (strOf t0).size 0 5)).size+1))):=((aA.refl Nil w1).drew).alloc _;generalize w1.drew.alloc (.cells (bytesRow (strOf t0) (grownCap w1 (strOf t0).size 0 5)) 5 ((bytesRow (strOf t0) (grownCap w1 (strOf t0).size 0 5)).size,(bytesRow (strOf t0) (grownCap w1 (strOf t0).size 0 5)).size+1))=w2 at *
 generalize Value.slice (some ⟨w1.heap.size,0,none⟩) (strOf t0).size (grownCap w1 (strOf t0).size 0 5)=v2 at *
 have r2:=H1.o.2.keep hk2 id;have e1:w2.cell? ⟨w.heap.size,1,none⟩=some (.bool gd):=r2.cell 1;have e2:w2.cell? ⟨w.heap.size,2,none⟩=some (.slice ad nd cd):=r2.cell 2;have kw2:=(H0.o.1.trans H1.o.1).trans hk2;have HT0:=jJ (aI4 ht0 hs1 hb0 hne0);have H2:=jJ (aI3 hown kw2 r2);have HC:=jJ hcv;clear ht0 hs0 c0 hs1 hb0 hne0 hcv hown hk2 r2 kw2;go_upto_region 6 with fail
 go_wp2_with fail
 rw [HC.o];have HN:=jJ (cZ1 (show w.heap.size<w.heap.size+1 by omega) (show w.heap.size+1≤w2.heap.size by have:=H2.o.2.2.lt;omega));go_upto_region 7 with (go_at_call 191;go_loud (refine (limbs_txt (B:=w.heap.size) H2.o.1 H2.o.2.1.size (HA.o.2.1.move H2.o.2.1 (fun _ _ h=>h.elim) fun _ _ h=>h) (by have h1:=HA.o.r6;have h2:=HT0.o.2.1;omega)).mono ?_;rintro e w3 ⟨v3,rfl,hp⟩;have r3:=H2.o.2.2.keep hp.keep (H2.o.1.ne H2.o.2.2 (by decide));have f4:w3.cell? ⟨w.heap.size,4,none⟩=some (.bool gk):=r3.cell 4;have f5:w3.cell? ⟨w.heap.size,5,none⟩=some (.slice ak nk ck):=r3.cell 5;have hfr:∀b,v2.ownBlock=some b→w.heap.size≤b:=(fun b hb=>(H2.o.1.lt b hb).1);have k3:aA Nil w w3:=H2.o.2.1.newer hp.keep hfr;have H3:=jJ (aI3 hp.own k3 r3);clear hp r3 hfr k3))
 go_upto_region 8 with (go_at_call 191;go_loud (refine (limbs_txt (B:=w.heap.size) H3.o.1 H3.o.2.1.size (HA.o.r4.1.move H3.o.2.1 (fun _ _ h=>h.elim) fun _ _ h=>h) (by have h1:=HA.o.r6;have h2:=HT0.o.2.1;have h3:=dC d;rw [aZ1];omega)).mono ?_;rintro e w4 ⟨v4,rfl,hp⟩;have r4:=H3.o.2.2.keep hp.keep (H3.o.1.ne H3.o.2.2 (by decide));have g3:w4.cell? ⟨w.heap.size,3,none⟩=some (.slice ap np cp):=r4.cell 3;have k4:aA Nil w w4:=H3.o.2.1.newer hp.keep (fun b hb=>(H3.o.1.lt b hb).1);have H4:=jJ (aI3 hp.own k4 r4);clear hp r4 k4))
 clear e1 e2 f4 f5 d0;obtain ⟨t1,ht1⟩:∃t,t=t0++dP d++dP z:=⟨_,rfl⟩;have h4:=H4.o;rw [←ht1] at h4;have hl1:t1.length≤28+32*nlen d.natAbs+32*nlen z.natAbs:=by have h2:=HT0.o.2.1;have h3:=dC d;have h5:=dC z;rw [ht1,aZ1,aZ1];omega
 have hb1:Byt t1:=by rw [ht1];exact (HT0.o.2.2.1.append (byt_numTxt d)).append (byt_numTxt z)
 have hne1:t1≠[]:=by rw [ht1];have:=HT0.o.2.2.2;simp [this]
 have hkt:bA ⟨4,d,⟨l,z⟩,v,q⟩=t1++bZ l:=by rw [HA.o.2.2.2.1,ht1,HT0.o.1];simp
 have hlen:l.length=np:=SlOf.len HA.o.r5.1;have hle:=(HA.o.r5.1.ex.elim fun f h=>h.1.le);have hcap:=(HA.o.r5.1.ex.elim fun f h=>h.1.cap);have hI:∀p∈l,-9223372036854775808≤p.1∧p.1≤9223372036854775807:=fun p hp=>by
  obtain ⟨i,hi,rfl⟩:=hZ3 hp;obtain ⟨_,_,_,_,_,_,_,_,_,_,_,_,_,h1,h2⟩:=HA.o.r5.1.at (i:=i) (by omega);rw [pth_lt hi] at h1 h2;exact⟨h1,h2⟩
 have HT1:=jJ (aI6 hl1 hb1 hne1 hkt hlen hI);have HX:=jJ (aI h4.1 h4.2.1);clear h4 hl1 hb1 hne1 hkt ht1 hlen hI H4;go_wp2_with fail
 go_loopw [4,33] (fun u i wr=>∃n:Nat,i=.int .i64 n∧n≤np∧OwnB wr w.heap.size 5 u (t1++bZ (l.take n))∧aA Nil w wr) (fun _ i _=>np-(intOf i).toNat)
 case atStart=>exact⟨0,rfl,aZ2 _,by rw [List.take_zero,show bZ []=[] from rfl,fZ2];exact HX.o.1,HX.o.2⟩
 case round=>
  obtain ⟨n,rfl,hn1,hown,hkr⟩:=hrel;obtain ⟨t2,ht2⟩:∃t,t=t1++bZ (l.take n):=⟨_,rfl⟩;rw [←ht2] at hown;have hl2:t2.length≤t1.length+bulkP (l.take n):=by
   rw [ht2,aZ1];have:=length_partsTxt (l.take n) fun p hp=>HT1.o.r5 p (bZ3 hp);omega
  have hne2:t2≠[]:=by rw [ht2];have:=HT1.o.2.2.1;simp [this]
  have HK:=jJ (aI5 ht2 hown hkr hl2 hne2);clear ht2 hown hkr hl2 hne2;by_cases hnp:n<np
  ·obtain ⟨b,off,g',a',n',c',rfl,hb,-,x0,x1,x2,hzz,i1',i2'⟩:=(HA.o.r5.1.move (M1':=From w.heap.size) (M2':=From w.heap.size) HK.o.2.2.1 (fun _ _ h=>h.elim) (fun _ _ h=>h) (fun _ _ h=>h.elim) fun _ _ h=>h).at hnp;have htk:l.take (n+1)=l.take n++[pth l n]:=by
    have h1:n<l.length:=by rw [HT1.o.r4.1];exact hnp
    rw [List.take_succ_eq_append_getElem h1,pth_lt h1]
   have hbk:bulkP (l.take n)+(24+32*nlen (pth l n).2.natAbs)≤bulkP l:=by
    have h1:=congrArg bulkP htk;rw [bulkP_append] at h1;have h2:=congrArg bulkP (aZ3 (n+1) l);rw [bulkP_append] at h2;simp only [bulkP] at h1;omega
   have HZ:=jJ (aI3 htk hbk hzz);clear htk hbk hzz;generalize pth l n=p at *
   obtain ⟨x,y⟩:=p;simp only at x0 i1' i2';go_upto_region 11 with fail
   have r6:aC (wr.alloc (.cells #[.int .i64 x,.bool g',.slice a' n' c'] 117)) wr.heap.size 117 [.int .i64 x,.bool g',.slice a' n' c']:=aC.alloc;have k6:aA Nil wr (wr.alloc (.cells #[.int .i64 x,.bool g',.slice a' n' c'] 117)):=kOf;generalize wr.alloc (.cells #[.int .i64 x,.bool g',.slice a' n' c'] 117)=wp at *
   have h6:=HK.o.2.1.keepNil k6;have hT6:=tab_up (HA.o.1.keepNil (HK.o.2.2.1.trans k6)).2 (B':=w.heap.size) HA.o.1.1;have hz6:=HZ.o.2.2.move (M2:=From w.heap.size) k6 (fun _ _ h=>h.elim) fun _ _ h=>h;have hs6:=(HK.o.2.2.1.trans k6).size;have hl6:t2.length+(24+32*nlen y.natAbs)≤70368744177100:=by have h1:=HK.o.2.2.2.1;have h2:=HZ.o.2.1;have h3:=HT1.o.1;have h4:=HA.o.r6;simp only at h2;omega
   obtain ⟨x0',x1',x2'⟩:=r6.three;have H6:=jJ (aI7 r6 k6 h6 hT6 hz6 hs6 hl6);clear r6 k6 h6 hT6 hz6 hs6 hl6 x0 x1 x2;go_region_held3 (fun w'=>w'.cell? ⟨wr.heap.size,0,none⟩=some (.int .i64 x)∧w'.cell? ⟨wr.heap.size,1,none⟩=some (.bool g')∧w'.cell? ⟨wr.heap.size,2,none⟩=some (.slice a' n' c')) (go_keep) ((first|(go_at_call 192;go_loud (refine (appendI_any (B:=w.heap.size) x i1' i2' (H6.o.2.2.1.keepNil ((aA.refl Nil wp).drew)) H6.o.r5.1 (by have h1:=H6.o.r6;omega) HK.o.r4 (H6.o.2.2.2.1.on (below_of ((aA.refl Nil wp).drew) (fun _ h=>h.elim) H6.o.r5.1))).mono ?_;rintro e w5 ⟨v5,rfl,hp5⟩;have r7:=(H6.o.1.keep ((aA.refl Nil wp).drew) id).keep hp5.keep ((H6.o.2.2.1.keepNil ((aA.refl Nil wp).drew)).ne (H6.o.1.keep ((aA.refl Nil wp).drew) id) (by decide));obtain ⟨y0,y1,y2⟩:=r7.three;have k5:aA Nil w w5:=(HK.o.2.2.1.trans (H6.o.2.1.trans (aA.refl Nil wp).drew)).newer hp5.keep (fun b hb=>(H6.o.2.2.1.lt b hb).1);have H5:=jJ (aI4 hp5.own k5 r7 (H6.o.r4.1.move (M2:=From w.heap.size) (((aA.refl Nil wp).drew.of_nil (M:=From w.heap.size)).trans (hp5.keep.mono (fun b hb=>(H6.o.2.2.1.lt b hb).1))) (fun _ _ h=>h) fun _ _ h=>h));clear hp5 r7 k5))|(go_at_call 191;go_loud (refine (limbs_txt (B:=w.heap.size) H5.o.1 H5.o.2.1.size H5.o.2.2.2 (by have h1:=H6.o.r6;have h2:=bI i1' i2';rw [aZ1];omega)).mono ?_;rintro e w8 ⟨v8,rfl,hp8⟩;have r8:=H5.o.2.2.1.keep hp8.keep (H5.o.1.ne H5.o.2.2.1 (by decide));obtain ⟨z0,z1,z2⟩:=r8.three;have k8:aA Nil w w8:=H5.o.2.1.newer hp8.keep (fun b hb=>(H5.o.1.lt b hb).1);have H8:=jJ (aI hp8.own k8);clear hp8 r8 k8))))
   all_goals
    go_wp2
    go_roundw
    case rel=>
     refine ⟨n+1,by go_num,hnp,?_,H8.o.2⟩;rw [HZ.o.1,partsTxt_snoc,←mZ2,←HK.o.1,←mZ2];exact H8.o.1
    case measure=>simp [intOf];omega
  ·have en:np=n:=by omega
   have hcb:=OwnB.text (P:=prog) HK.o.2.1 (by rw [HK.o.1];exact HT1.o.2.1.append (byt_partsTxt _)) HK.o.r4 217 9 underlying217 underlying5 underlying9;have HCB:=jJ hcb;clear hcb;go_wp2_with fail
   rw [HCB.o];go_wp2
   go_ret
   refine ⟨?_,HK.o.2.2.1⟩;rw [HT1.o.2.2.2.1,HK.o.1,eZ1 (by rw [HT1.o.r4.1];omega)];rfl
end
structure OkNode (N:aT):Prop where
 kind:2≤N.kind∧N.kind≤8
 var:I64 N.var
 kids:∀x∈N.kids,I64 x
 few:N.kids.length≤16777216
 room:32*nlen N.d.natAbs+32*nlen N.t.k.natAbs+bulkP N.t.parts≤70368744177000
theorem key_any {B:Nat} {w:World} {gd gk:Bool} {ad ap ak aq:Option Addr} {nd cd np cp nk ck nq cq:Nat} {N:aT} (hT:Tab B w) (h:NodeAt Nil w gd ad nd cd ap np cp gk ak nk ck aq nq cq N) (hN:OkNode N) :
  Calls prog 143 #[.agg #[.int .i64 N.kind,.bool gd,.slice ad nd cd,.slice ap np cp,.bool gk,.slice ak nk ck,.int .i64 N.var,.slice aq nq cq]] w fun e w'=>e=.returned (.string (strOf (bA N)))∧aA Nil w w':=by
 obtain ⟨k,d,⟨l,z⟩,v,q⟩:=N;obtain ⟨⟨h1,h2⟩,hv,hq,hf,hr⟩:=hN;have hn:nq≤16777216:=by have:=SlOf.len h.kids;simp only at hf this;omega
 simp only at h1 h2 hv hq hr⊢;by_cases k2:k=2
 ·subst k2;exact key2 hT h hr
 by_cases k3:k=3
 ·subst k3;exact key3 hT h hr
 by_cases k4:k=4
 ·subst k4;exact key4 hT h hr
 by_cases k5:k=5
 ·subst k5;exact key5 hT h hv hq hn
 by_cases k6:k=6
 ·subst k6;exact key6 hT h hv hq hn
 by_cases k7:k=7
 ·subst k7;exact key7 hT h hv hq hn
 ·obtain rfl:k=8:=by omega
  exact key8 hT h hv hq hn
section
def txtLit (t:List Nat):Lit:=.string (t.map UInt8.ofNat)
theorem txtLit_inj {s t:List Nat} (hs:Byt s) (ht:Byt t) (h:txtLit s=txtLit t):s=t:=by
 unfold txtLit at h;have h1:s.map UInt8.ofNat=t.map UInt8.ofNat:=by injection h
 rw [←nats_ofNat hs,h1,nats_ofNat ht]
theorem key_txt {P:Program} {kt:TypeId} (hk:P.underlying kt=some .string) {t:List Nat} (ht:t.length≤maxLen):keyOf P kt (.string (strOf t))=some (txtLit t):=by
 rw [WideMaps.keyOf_string_mk hk (by rw [aR];exact ht)];simp [txtLit,strOf]
def KMap (P:Program) (kt et:TypeId) (w:World) (b n:Nat) (F:List Nat→Option Nat):Prop:=
 ∃D:DataW Unit,w.ownsMap P kt (plainElem P et) b n D∧∀t,Byt t→Maps.has D (txtLit t)=(F t).isSome∧∀i,F t=some i→D.atKey (txtLit t) (.lit (.int .i64 0))=.lit (.int .i64 i)
theorem KMap.keep {P:Program} {kt et:TypeId} {M:Nat→Prop} {w w':World} {b n:Nat} {F:List Nat→Option Nat} (h:KMap P kt et w b n F) (k:aA M w w') (hn:¬M b):KMap P kt et w' b n F:=by
 obtain ⟨D,q1,q2⟩:=h;refine ⟨D,?_,q2⟩;have hlt:=q1.lt;obtain ⟨es,clock,hb,F,hs,hD⟩:=q1;exact⟨es,clock,(k.block b hlt hn).trans hb,F,hs,hD⟩
theorem KMap.mono {P:Program} {kt et:TypeId} {w:World} {b n n':Nat} {F:List Nat→Option Nat} (h:KMap P kt et w b n F) (hn:n≤n'):KMap P kt et w b n' F:=by obtain ⟨D,q,r⟩:=h;exact⟨D,q.mono hn,r⟩
section
variable {P:Program} (w:World) {ops:Array Oper} {rest:List Oper} {o:Oper} {a:Act} {Q:Exit→Act→World→Prop}
theorem wpList_kmap_look (hg:o.guard=none) (m x:Operand) (t:TypeId) (hop:o.op=Op.lookup t m x true) (kt et:TypeId) (hk:P.underlying kt=some .string) (ht:P.underlying t=some (.map kt et)) (he:P.underlying et=some (.int .i64)) (hz:(zeroValue et).run P w=.ok (.int .i64 0) w)
  (b n:Nat) (F:List Nat→Option Nat) (hm:a.eval m=.map (some b)) (hF:KMap P kt et w b n F) (s:List Nat) (hx:a.eval x=.string (strOf s)) (hs:Byt s) (hl:s.length≤maxLen)
  (hK:∀c:Int,(∀i,F s=some i→c=i)→wpList P ops Q rest (a.put o.dst (.tuple #[.int .i64 c,.bool (F s).isSome])) w):wpList P ops Q (o::rest) a w:=by
 obtain ⟨D,q1,q2⟩:=hF;obtain ⟨r1,r2⟩:=q2 s hs;refine wpList_lookup_own_ok_int w hg m x t hop kt et .i64 (string_keyed hk) ht he hz b n D hm q1 _ (txtLit s) hx (key_txt hk hl) ?_;intro c hc _;rw [r1];refine hK c fun i hi=>?_;have h:=hc.symm.trans (r2 i hi);simp only [DataW.lit.injEq,Lit.int.injEq,true_and] at h;exact h
theorem wpList_kmap_put (hg:o.guard=none) (m x v:Operand) (t:TypeId) (hop:o.op=Op.mapUpdate t m x v) (kt et:TypeId) (hk:P.underlying kt=some .string) (ht:P.underlying t=some (.map kt et)) (he:P.underlying et=some (.int .i64))
  (b n:Nat) (F:List Nat→Option Nat) (hm:a.eval m=.map (some b)) (hF:KMap P kt et w b n F) (hn:n<maxLen) (s:List Nat) (hx:a.eval x=.string (strOf s)) (hs:Byt s) (hl:s.length≤maxLen) (i:Nat) (hi:i≤9223372036854775807) (hv:a.eval v=.int .i64 (i:Int))
  (hK:∀w',KMap P kt et w' b (n+1) (fun t=>if t=s then some i else F t)→aA (One b) w w'→wpList P ops Q rest (a.put o.dst undef) w'):wpList P ops Q (o::rest) a w:=by
 obtain ⟨D,q1,q2⟩:=hF;have hwf:(Lit.int .i64 (i:Int)).wf=true:=WalkArith.wf_i64 (by omega);refine wpList_mapUpdate_own w hg m x v t hop kt et (string_keyed hk) ht (plainElem P et) b n D hm q1 hn _ _ (txtLit s) hx hv (key_txt hk hl) (.lit (.int .i64 i)) [] (plainElem_int he hwf) ?_;intro w' r1 r2;have hM:=(q1.tidy (string_keyed hk)).isMap;refine hK w' ⟨_,r1,fun u hu=>?_⟩ (aA.ofGrown r2);by_cases hus:u=s
 ·subst hus;show _=(if u=u then some i else F u).isSome∧∀j,(if u=u then some i else F u)=some j→_
  rw [if_pos rfl];refine ⟨by rw [Maps.has_put_same hM (show WideAt.IsKeyLit (txtLit u) from trivial)];rfl,fun j hj=>?_⟩;cases hj;exact atKey_put_same hM (show WideAt.IsKeyLit (txtLit u) from trivial) _ _
 ·show _=(if u=s then some i else F u).isSome∧∀j,(if u=s then some i else F u)=some j→_
  rw [if_neg hus];have hne:txtLit u≠txtLit s:=fun e=>hus (txtLit_inj hu hs e);rw [Maps.has_put_other hne];refine ⟨(q2 u hu).1,fun j hj=>?_⟩;rw [atKey_put_other hne];exact (q2 u hu).2 j hj
end
end
end Go.Proofs.Q
