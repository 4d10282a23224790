/-
  A part of the proof: Q6, Q7, Q8.
-/
import Derived.Test.YtcfjomnihhdpaaaGreatDoorBu7
namespace Go.Proofs.YtcfjomnihhdpaaaGreatDoor.A
open Go.RowKit Go.Proofs.YtcfjomnihhdpaaaGreatDoorW.PrintWords Go.Proofs.YtcfjomnihhdpaaaGreatDoorW.PrintLast Go.Proofs.YtcfjomnihhdpaaaGreatDoorW.PrintMore
set_option linter.unusedVariables false
set_option linter.unusedSimpArgs false
section
attribute [local go_sem] Oper.semAt_some
set_option maxHeartbeats 4000000 in
set_option maxRecDepth 100000 in
theorem noun_noun (s:Sg) (n:Nat) (t:S30) (w0 w:World) (bp mb:Nat) (A1:Option Addr) (c1:Nat) (A2:Option Addr) (c2:Nat) (h0:Below w0.heap.size w0 w) (hb:Bld w0 bp mb s) (tv:TreeV w0 t A1 c1 A2 c2) (ef:t.f0=nNoun) (hl:t.f2.length=1) :
  Calls Tryz.prog 44 #[.pointer (some ⟨bp,0,none⟩),.agg #[.string t.f0,.slice A1 t.f1.length c1,.slice A2 t.f2.length c2]] w (PrdRet w (fun k=>k<w0.heap.size) (nounP s (n+1) t)):=by
 have E:=ent_mk h0 hb tv
 obtain ⟨ad0,B01,d01,B02,d02,e0,y00,y01,y02,l01,i01,l02,i02⟩:=at_T30 E.tv0.k 0 (by omega) (by omega)
 subst e0
 have q0:(t.f0.toList == ([78,111,117,110]:List UInt8))=true:=by rw[ef];decide +kernel
 have HR:nounP s (n+1) t=(predP s.ps (kidOf t 0).f0).map fun _=>fun depth x=>atomP s.ps (kidOf t 0).f0 depth [x]:=by
  rw[nounP,isF,show (t.f0.toList == bNoun)=true from q0];rfl
 generalize nounP s (n+1) t=r at *
 have HR:=Aside0.mk HR
 have x0:=blk_cell E.bt 0
 simp at x0
 have E:=Aside0.mk E
 have HL:=Aside0.mk hl
 clear h0 hb tv ef hl
 go_enter Tryz.func44,Tryz.ntmps44
 go_wp2_with fail
 clear x0
 replace E:=E.out
 have hl:=HL.out
 generalize hV2:((w.alloc (.cells #[.pointer (some ⟨bp,0,none⟩)] 73)).alloc (.cells #[.string t.f0,.slice A1 t.f1.length c1,.slice (some ad0) t.f2.length c2] 30))=W2 at *
 clear hV2
 refine wp_onNP (fun a' w' =>∃g,a' =frN 47 g∧g 2= .pointer (some ⟨w.heap.size,0,none⟩)∧g 3= .pointer (some ⟨w.heap.size+1,0,none⟩)∧(predP s.ps (kidOf t 0).f0).isSome=true∧Below W2.heap.size W2 w') (fun w' =>r=none∧Below w.heap.size w w') (to_frN 47 rfl fun f hf=> ?_) ?_ (fun a' w' hd h=>by obtain ⟨e,hB⟩:=h;refine ⟨hd,?_⟩;rw[e];exact PrdRet.no hB)
 ·have f2:f 2=_:=hf 2
  have f3:f 3=_:=hf 3
  have b0:∀{V},Below W2.drew.heap.size W2.drew V→Below w0.heap.size w0 V:=fun hB=>below_step E.b0 (below_step (below_drew (Below.refl _ _)) hB)
  have bw:∀{V},Below W2.drew.heap.size W2.drew V→Below W2.heap.size W2 V:=fun hB=>below_step (below_drew (Below.refl _ _)) hB
  refine region_box 76 #[.nilFunc] (fun v=> #[v]) 47 [.is (.pointer (some ⟨bp,0,none⟩)),.is (.pointer (some ⟨w.heap.size+1,2,none⟩)),.is (.slice (some ad0) t.f2.length c2),.is (.pointer (some (ad0.add ((0:Int).toNat*3)))),.is (.agg #[.string (kidOf t 0).f0,.slice B01 (kidOf t 0).f1.length d01,.slice B02 (kidOf t 0).f2.length d02]),.pf ((predP s.ps (kidOf t 0).f0).isSome=true)] [] [12,13,14,15,16,17] f W2 (by kernel_rfl) (by kernel_rfl) (by kernel_rfl) (fun j hj=>absurd (fun b hb=>by cases hb) hj) ?_ ?_
  ·exact ⟨fun q V J pr hB hp hq h hi=>op_ld73 hi rfl rfl f2 (E.bb.below (bw hB)) (h _ _ rfl (.refl _ _)),
   fun q V J pr hB hp hq h hi=>op_fa (c:=2) hi rfl rfl f3 (h _ _ rfl (.refl _ _)),
   fun q V J pr hB hp hq h hi=>op_ld28 hi rfl rfl (hq 1 rfl) (blk_cell (blk_below E.bt (bw hB)) 2) (h _ _ rfl (.refl _ _)),
   fun q V J pr hB hp hq h hi=>op_ix hi rfl rfl (eq_true (by decide)) (eq_true (by omega)) (hq 2 rfl) (h _ _ rfl (.refl _ _)),
   fun q V J pr hB hp hq h hi=>op_ldT hi rfl rfl (hq 3 rfl) (pw_cell_below (b0 hB) y00) (pw_cell_below (b0 hB) y01) (pw_cell_below (b0 hB) y02) (h _ _ rfl (.refl _ _)),
   fun q V J pr hB hp hq h hi=>op_known hi rfl rfl (hq 0 rfl) (hq 4 rfl) (E.bld.below (bw hB)) rfl (fun e w' b=>⟨by rw[HR.out,e];rfl,below_step E.low (below_step (bw hB) b)⟩) h,trivial⟩
  intro q V hB hx hI
  exact ⟨_,rfl,f2,f3,hx 5 (by decide) (by simp),bw hB⟩
 rintro a' V0 ⟨g,rfl,g2,g3,hsome,hB⟩
 rw[frN47]
 replace E:=E.below hB
 obtain ⟨p,hpp⟩:=Option.isSome_iff_exists.1 hsome
 have HP:=Aside0.mk hpp
 clear hpp hsome
 have E:=Aside0.mk E
 clear hl
 have hmf:∀(fn:Fn) (first cap:Array Value) (w:World),(Instr.makeFunc fn first cap).run Tryz.prog w= .ok (.func fn first cap) w:=fun _ _ _ _=>rfl
 go_wp2_with fail
 go_ret
 replace E:=E.out
 have hl:=HL.out
 rw[HR.out,HP.out]
 exact PrdRet.yes E.low (clo82 (E.fb (.refl _ _)) (E.fbb (.refl _ _)) (E.ft (.refl _ _)) (by omega))
set_option maxHeartbeats 4000000 in
set_option maxRecDepth 100000 in
theorem noun_adj (s:Sg) (n:Nat) (t:S30) (hn:nodes t≤n+1) (hres:resP t=true) (h44:NounC s n) (w0 w:World) (bp mb:Nat) (A1:Option Addr) (c1:Nat) (A2:Option Addr) (c2:Nat) (h0:Below w0.heap.size w0 w) (hb:Bld w0 bp mb s) (tv:TreeV w0 t A1 c1 A2 c2) (ef:t.f0=nAdj) (hl:t.f2.length=2) (hf1:formedP structL (kidOf t 1) cCN=true) :
  Calls Tryz.prog 44 #[.pointer (some ⟨bp,0,none⟩),.agg #[.string t.f0,.slice A1 t.f1.length c1,.slice A2 t.f2.length c2]] w (PrdRet w (fun k=>k<w0.heap.size) (nounP s (n+1) t)):=by
 have E:=ent_mk h0 hb tv
 obtain ⟨ad0,B01,d01,B02,d02,e0,y00,y01,y02,l01,i01,l02,i02⟩:=at_T30 E.tv0.k 0 (by omega) (by omega)
 subst e0
 obtain ⟨ad1,B11,d11,B12,d12,e1,y10,y11,y12,l11,i11,l12,i12⟩:=at_T30 E.tv0.k 1 (by omega) (by omega)
 obtain rfl:=Option.some.inj e1
 have q0:(t.f0.toList == ([78,111,117,110]:List UInt8))=false:=by rw[ef];decide +kernel
 have q1:(t.f0.toList == ([65,100,106]:List UInt8))=true:=by rw[ef];decide +kernel
 have HR:nounP s (n+1) t=(predP s.ps (kidOf t 0).f0).bind fun _=>(nounP s n (kidOf t 1)).map fun c=>fun depth x=>(atomP s.ps (kidOf t 0).f0 depth [x]).bind fun m1=>(c depth x).bind fun m2=>some (bothP m1 m2):=by
  rw[nounP,isF,isF,show (t.f0.toList == bNoun)=false from q0,show (t.f0.toList == bAdj)=true from q1];rfl
 generalize nounP s (n+1) t=r at *
 have HR:=Aside0.mk HR
 have x0:=blk_cell E.bt 0
 simp at x0
 have E:=Aside0.mk E
 have HL:=Aside0.mk hl
 clear h0 hb tv ef hl
 go_enter Tryz.func44,Tryz.ntmps44
 go_wp2_with fail
 clear x0
 replace E:=E.out
 have hl:=HL.out
 generalize hV2:((w.alloc (.cells #[.pointer (some ⟨bp,0,none⟩)] 73)).alloc (.cells #[.string t.f0,.slice A1 t.f1.length c1,.slice (some ad0) t.f2.length c2] 30))=W2 at *
 clear hV2
 refine wp_onNP (fun a' w' =>∃g,a' =frN 47 g∧g 2= .pointer (some ⟨w.heap.size,0,none⟩)∧g 3= .pointer (some ⟨w.heap.size+1,0,none⟩)∧(predP s.ps (kidOf t 0).f0).isSome=true∧Below W2.heap.size W2 w') (fun w' =>r=none∧Below w.heap.size w w') (to_frN 47 rfl fun f hf=> ?_) ?_ (fun a' w' hd h=>by obtain ⟨e,hB⟩:=h;refine ⟨hd,?_⟩;rw[e];exact PrdRet.no hB)
 ·have f2:f 2=_:=hf 2
  have f3:f 3=_:=hf 3
  have b0:∀{V},Below W2.drew.heap.size W2.drew V→Below w0.heap.size w0 V:=fun hB=>below_step E.b0 (below_step (below_drew (Below.refl _ _)) hB)
  have bw:∀{V},Below W2.drew.heap.size W2.drew V→Below W2.heap.size W2 V:=fun hB=>below_step (below_drew (Below.refl _ _)) hB
  refine region_box 76 #[.nilFunc] (fun v=> #[v]) 47 [.is (.pointer (some ⟨bp,0,none⟩)),.is (.pointer (some ⟨w.heap.size+1,2,none⟩)),.is (.slice (some ad0) t.f2.length c2),.is (.pointer (some (ad0.add ((0:Int).toNat*3)))),.is (.agg #[.string (kidOf t 0).f0,.slice B01 (kidOf t 0).f1.length d01,.slice B02 (kidOf t 0).f2.length d02]),.pf ((predP s.ps (kidOf t 0).f0).isSome=true)] [] [21,22,23,24,25,26] f W2 (by kernel_rfl) (by kernel_rfl) (by kernel_rfl) (fun j hj=>absurd (fun b hb=>by cases hb) hj) ?_ ?_
  ·exact ⟨fun q V J pr hB hp hq h hi=>op_ld73 hi rfl rfl f2 (E.bb.below (bw hB)) (h _ _ rfl (.refl _ _)),
   fun q V J pr hB hp hq h hi=>op_fa (c:=2) hi rfl rfl f3 (h _ _ rfl (.refl _ _)),
   fun q V J pr hB hp hq h hi=>op_ld28 hi rfl rfl (hq 1 rfl) (blk_cell (blk_below E.bt (bw hB)) 2) (h _ _ rfl (.refl _ _)),
   fun q V J pr hB hp hq h hi=>op_ix hi rfl rfl (eq_true (by decide)) (eq_true (by omega)) (hq 2 rfl) (h _ _ rfl (.refl _ _)),
   fun q V J pr hB hp hq h hi=>op_ldT hi rfl rfl (hq 3 rfl) (pw_cell_below (b0 hB) y00) (pw_cell_below (b0 hB) y01) (pw_cell_below (b0 hB) y02) (h _ _ rfl (.refl _ _)),
   fun q V J pr hB hp hq h hi=>op_known hi rfl rfl (hq 0 rfl) (hq 4 rfl) (E.bld.below (bw hB)) rfl (fun e w' b=>⟨by rw[HR.out,e];rfl,below_step E.low (below_step (bw hB) b)⟩) h,trivial⟩
  intro q V hB hx hI
  exact ⟨_,rfl,f2,f3,hx 5 (by decide) (by simp),bw hB⟩
 rintro a' V0 ⟨g,rfl,g2,g3,hsome,hB⟩
 rw[frN47]
 replace E:=E.below hB
 obtain ⟨p,hpp⟩:=Option.isSome_iff_exists.1 hsome
 have HP:=Aside0.mk hpp
 clear hpp hsome
 have E:=Aside0.mk E
 clear hl
 go_wp2_with fail
 replace E:=E.out
 have hl:=HL.out
 refine wp_onNP (fun a' w' =>∃g,a' =frN 47 g∧g 2= .pointer (some ⟨w.heap.size,0,none⟩)∧g 3= .pointer (some ⟨w.heap.size+1,0,none⟩)∧Got w0 w w' (g 5) (nounP s n (kidOf t 1))∧Below V0.heap.size V0 w') (fun w' =>r=none∧Below w.heap.size w w') (to_frN 47 rfl fun f hf=> ?_) ?_ (fun a' w' hd h=>by obtain ⟨e,hB⟩:=h;refine ⟨hd,?_⟩;rw[e];exact PrdRet.no hB)
 ·have f2:f 2=_:=(hf 2).trans g2
  have f3:f 3=_:=(hf 3).trans g3
  have b0:∀{V},Below V0.drew.heap.size V0.drew V→Below w0.heap.size w0 V:=fun hB=>below_step E.b0 (below_step (below_drew (Below.refl _ _)) hB)
  have bw:∀{V},Below V0.drew.heap.size V0.drew V→Below V0.heap.size V0 V:=fun hB=>below_step (below_drew (Below.refl _ _)) hB
  refine region_box 76 #[.nilFunc] (fun v=> #[v]) 47 [.is (.pointer (some ⟨bp,0,none⟩)),.is (.pointer (some ⟨w.heap.size+1,2,none⟩)),.is (.slice (some ad0) t.f2.length c2),.is (.pointer (some (ad0.add ((1:Int).toNat*3)))),.is (.agg #[.string (kidOf t 1).f0,.slice B11 (kidOf t 1).f1.length d11,.slice B12 (kidOf t 1).f2.length d12]),.fn (fun k=>k<w0.heap.size∨w.heap.size≤k) (nounP s n (kidOf t 1)),.top,.top] [⟨6,7,5⟩] [27,28,29,30,31,32,5,907] f V0 (by kernel_rfl) (by kernel_rfl) (by kernel_rfl) ?_ ?_ ?_
  ·intro j hj v w pr
   have hj2:j=6∨j=7:=by
    refine Classical.byContradiction fun hn=>hj ?_
    intro b hb
    simp at hb
    rcases hb with rfl<;>simp<;>omega
   rcases hj2 with rfl | rfl<;>trivial
  ·exact ⟨fun q V J pr hB hp hq h hi=>op_ld73 hi rfl rfl f2 (E.bb.below (bw hB)) (h _ _ rfl (.refl _ _)),
   fun q V J pr hB hp hq h hi=>op_fa (c:=2) hi rfl rfl f3 (h _ _ rfl (.refl _ _)),
   fun q V J pr hB hp hq h hi=>op_ld28 hi rfl rfl (hq 1 rfl) (blk_cell (blk_below E.bt (bw hB)) 2) (h _ _ rfl (.refl _ _)),
   fun q V J pr hB hp hq h hi=>op_ix hi rfl rfl (eq_true (by decide)) (eq_true (by omega)) (hq 2 rfl) (h _ _ rfl (.refl _ _)),
   fun q V J pr hB hp hq h hi=>op_ldT hi rfl rfl (hq 3 rfl) (pw_cell_below (b0 hB) y10) (pw_cell_below (b0 hB) y11) (pw_cell_below (b0 hB) y12) (h _ _ rfl (.refl _ _)),
   fun q V J pr hB hp hq h hi=>op_prdT (enters_of Tryz.func44 (by kernel_rfl) rfl) hi rfl rfl (hq 0 rfl) (hq 4 rfl) (h44 (kidOf t 1) (by have:=nodes_kid (t:=t) (i:=1) (by omega);omega) hf1 (res_kid hres (by omega)) w0 V bp mb B11 d11 B12 d12 (b0 hB) E.bld0 ⟨l11,i11,l12,i12⟩) rfl (fun e w' b=>⟨by rw[HR.out,HP.out,e];rfl,below_step E.low (below_step (bw hB) b)⟩) (fun k hk=>⟨Nat.le_trans E.b0.size (hp k hk).1,(hp k hk).2⟩) (Nat.le_trans E.low.size (bw hB).size) h,
   fun q V J h hi=>op_new76 hi rfl rfl h,
   fun q V J g pr hx hc hz h hi=>op_st76 hi rfl rfl rfl hx rfl (by obtain ⟨f,_,g,cap,e,_⟩:=hc;exact ⟨g,cap,e⟩) hz fun w' h1 h2 h3=>h undef w' h1 h2 h3,trivial⟩
  intro q V hB hx hI
  exact ⟨_,rfl,f2,f3,got_mk hI (b:=⟨6,7,5⟩) (by simp) (Nat.le_trans E.low.size (Nat.le_refl _)) (hx 5 (by decide) (by simp)),bw hB⟩
 rintro a' V1 ⟨g,rfl,g2,g3,hg5,hB⟩
 rw[frN47]
 replace E:=E.below hB
 have E:=Aside0.mk E
 clear hl
 obtain ⟨b5,v5,k5,hg5,o5,X5,P5,F5⟩:=hg5
 have X5:=Aside0.mk X5
 have P5:=Aside0.mk P5
 have F5:=Aside0.mk F5
 have hmf:∀(fn:Fn) (first cap:Array Value) (w:World),(Instr.makeFunc fn first cap).run Tryz.prog w= .ok (.func fn first cap) w:=fun _ _ _ _=>rfl
 go_wp2_with fail
 go_ret
 replace E:=E.out
 have hl:=HL.out
 rw[HR.out,HP.out,F5.out]
 exact PrdRet.yes E.low (clo84 (E.fb (.refl _ _)) (E.fbb (.refl _ _)) (E.ft (.refl _ _)) (by omega) (fr_box X5.out (.inr o5)) P5.out)
set_option maxHeartbeats 4000000 in
set_option maxRecDepth 100000 in
theorem noun_who (s:Sg) (n:Nat) (t:S30) (hn:nodes t≤n+1) (hres:resP t=true) (h44:NounC s n) (h86:VerbC s n) (w0 w:World) (bp mb:Nat) (A1:Option Addr) (c1:Nat) (A2:Option Addr) (c2:Nat) (h0:Below w0.heap.size w0 w) (hb:Bld w0 bp mb s) (tv:TreeV w0 t A1 c1 A2 c2) (ef:t.f0=nWho) (hl:t.f2.length=2) (hf0:formedP structL (kidOf t 0) cCN=true) (hf1:formedP structL (kidOf t 1) cVP=true) :
  Calls Tryz.prog 44 #[.pointer (some ⟨bp,0,none⟩),.agg #[.string t.f0,.slice A1 t.f1.length c1,.slice A2 t.f2.length c2]] w (PrdRet w (fun k=>k<w0.heap.size) (nounP s (n+1) t)):=by
 have E:=ent_mk h0 hb tv
 obtain ⟨ad0,B01,d01,B02,d02,e0,y00,y01,y02,l01,i01,l02,i02⟩:=at_T30 E.tv0.k 0 (by omega) (by omega)
 subst e0
 obtain ⟨ad1,B11,d11,B12,d12,e1,y10,y11,y12,l11,i11,l12,i12⟩:=at_T30 E.tv0.k 1 (by omega) (by omega)
 obtain rfl:=Option.some.inj e1
 have q0:(t.f0.toList == ([78,111,117,110]:List UInt8))=false:=by rw[ef];decide +kernel
 have q1:(t.f0.toList == ([65,100,106]:List UInt8))=false:=by rw[ef];decide +kernel
 have HR:nounP s (n+1) t=(nounP s n (kidOf t 0)).bind fun c=>(verbP s n (kidOf t 1)).map fun v=>joinP c v:=by
  rw[nounP,isF,isF,show (t.f0.toList == bNoun)=false from q0,show (t.f0.toList == bAdj)=false from q1];rfl
 generalize nounP s (n+1) t=r at *
 have HR:=Aside0.mk HR
 have x0:=blk_cell E.bt 0
 simp at x0
 have E:=Aside0.mk E
 have HL:=Aside0.mk hl
 clear h0 hb tv ef hl
 go_enter Tryz.func44,Tryz.ntmps44
 go_wp2_with fail
 clear x0
 replace E:=E.out
 have hl:=HL.out
 generalize hV2:((w.alloc (.cells #[.pointer (some ⟨bp,0,none⟩)] 73)).alloc (.cells #[.string t.f0,.slice A1 t.f1.length c1,.slice (some ad0) t.f2.length c2] 30))=W2 at *
 clear hV2
 refine wp_onNP (fun a' w' =>∃g,a' =frN 47 g∧g 2= .pointer (some ⟨w.heap.size,0,none⟩)∧g 3= .pointer (some ⟨w.heap.size+1,0,none⟩)∧Got w0 w w' (g 6) (nounP s n (kidOf t 0))∧Got w0 w w' (g 7) (verbP s n (kidOf t 1))∧Below W2.heap.size W2 w') (fun w' =>r=none∧Below w.heap.size w w') (to_frN 47 rfl fun f hf=> ?_) ?_ (fun a' w' hd h=>by obtain ⟨e,hB⟩:=h;refine ⟨hd,?_⟩;rw[e];exact PrdRet.no hB)
 ·have f2:f 2=_:=hf 2
  have f3:f 3=_:=hf 3
  have b0:∀{V},Below W2.drew.heap.size W2.drew V→Below w0.heap.size w0 V:=fun hB=>below_step E.b0 (below_step (below_drew (Below.refl _ _)) hB)
  have bw:∀{V},Below W2.drew.heap.size W2.drew V→Below W2.heap.size W2 V:=fun hB=>below_step (below_drew (Below.refl _ _)) hB
  refine region_box 76 #[.nilFunc] (fun v=> #[v]) 47 [.is (.pointer (some ⟨bp,0,none⟩)),.is (.pointer (some ⟨w.heap.size+1,2,none⟩)),.is (.slice (some ad0) t.f2.length c2),.is (.pointer (some (ad0.add ((0:Int).toNat*3)))),.is (.agg #[.string (kidOf t 0).f0,.slice B01 (kidOf t 0).f1.length d01,.slice B02 (kidOf t 0).f2.length d02]),.fn (fun k=>k<w0.heap.size∨w.heap.size≤k) (nounP s n (kidOf t 0)),.is (.pointer (some ⟨bp,0,none⟩)),.is (.pointer (some ⟨w.heap.size+1,2,none⟩)),.is (.slice (some ad0) t.f2.length c2),.is (.pointer (some (ad0.add ((1:Int).toNat*3)))),.is (.agg #[.string (kidOf t 1).f0,.slice B11 (kidOf t 1).f1.length d11,.slice B12 (kidOf t 1).f2.length d12]),.fn (fun k=>k<w0.heap.size∨w.heap.size≤k) (verbP s n (kidOf t 1)),.top,.top,.top,.top] [⟨12,14,5⟩,⟨13,15,11⟩] [34,35,36,37,38,39,40,41,42,43,44,45,6,7,914,915] f W2 (by kernel_rfl) (by kernel_rfl) (by kernel_rfl) ?_ ?_ ?_
  ·intro j hj v w pr
   have hj2:j=12∨j=13∨j=14∨j=15:=by
    refine Classical.byContradiction fun hn=>hj ?_
    intro b hb
    simp at hb
    rcases hb with rfl | rfl<;>simp<;>omega
   rcases hj2 with rfl | rfl | rfl | rfl<;>trivial
  ·exact ⟨fun q V J pr hB hp hq h hi=>op_ld73 hi rfl rfl f2 (E.bb.below (bw hB)) (h _ _ rfl (.refl _ _)),
   fun q V J pr hB hp hq h hi=>op_fa (c:=2) hi rfl rfl f3 (h _ _ rfl (.refl _ _)),
   fun q V J pr hB hp hq h hi=>op_ld28 hi rfl rfl (hq 1 rfl) (blk_cell (blk_below E.bt (bw hB)) 2) (h _ _ rfl (.refl _ _)),
   fun q V J pr hB hp hq h hi=>op_ix hi rfl rfl (eq_true (by decide)) (eq_true (by omega)) (hq 2 rfl) (h _ _ rfl (.refl _ _)),
   fun q V J pr hB hp hq h hi=>op_ldT hi rfl rfl (hq 3 rfl) (pw_cell_below (b0 hB) y00) (pw_cell_below (b0 hB) y01) (pw_cell_below (b0 hB) y02) (h _ _ rfl (.refl _ _)),
   fun q V J pr hB hp hq h hi=>op_prdT (enters_of Tryz.func44 (by kernel_rfl) rfl) hi rfl rfl (hq 0 rfl) (hq 4 rfl) (h44 (kidOf t 0) (by have:=nodes_kid (t:=t) (i:=0) (by omega);omega) hf0 (res_kid hres (by omega)) w0 V bp mb B01 d01 B02 d02 (b0 hB) E.bld0 ⟨l01,i01,l02,i02⟩) rfl (fun e w' b=>⟨by rw[HR.out,e];rfl,below_step E.low (below_step (bw hB) b)⟩) (fun k hk=>⟨Nat.le_trans E.b0.size (hp k hk).1,(hp k hk).2⟩) (Nat.le_trans E.low.size (bw hB).size) h,
   fun q V J pr hB hp hq h hi=>op_ld73 hi rfl rfl f2 (E.bb.below (bw hB)) (h _ _ rfl (.refl _ _)),
   fun q V J pr hB hp hq h hi=>op_fa (c:=2) hi rfl rfl f3 (h _ _ rfl (.refl _ _)),
   fun q V J pr hB hp hq h hi=>op_ld28 hi rfl rfl (hq 7 rfl) (blk_cell (blk_below E.bt (bw hB)) 2) (h _ _ rfl (.refl _ _)),
   fun q V J pr hB hp hq h hi=>op_ix hi rfl rfl (eq_true (by decide)) (eq_true (by omega)) (hq 8 rfl) (h _ _ rfl (.refl _ _)),
   fun q V J pr hB hp hq h hi=>op_ldT hi rfl rfl (hq 9 rfl) (pw_cell_below (b0 hB) y10) (pw_cell_below (b0 hB) y11) (pw_cell_below (b0 hB) y12) (h _ _ rfl (.refl _ _)),
   fun q V J pr hB hp hq h hi=>op_prdT (enters_of Tryz.func86 (by kernel_rfl) rfl) hi rfl rfl (hq 6 rfl) (hq 10 rfl) (h86 (kidOf t 1) (by have:=nodes_kid (t:=t) (i:=1) (by omega);omega) hf1 (res_kid hres (by omega)) w0 V bp mb B11 d11 B12 d12 (b0 hB) E.bld0 ⟨l11,i11,l12,i12⟩) rfl (fun e w' b=>⟨by obtain ⟨f5,e5,_⟩:=hq 5 rfl;rw[HR.out,e5,e];rfl,below_step E.low (below_step (bw hB) b)⟩) (fun k hk=>⟨Nat.le_trans E.b0.size (hp k hk).1,(hp k hk).2⟩) (Nat.le_trans E.low.size (bw hB).size) h,
   fun q V J h hi=>op_new76 hi rfl rfl h,
   fun q V J h hi=>op_new76 hi rfl rfl h,
   fun q V J g pr hx hc hz h hi=>op_st76 hi rfl rfl rfl hx rfl (by obtain ⟨f,_,g,cap,e,_⟩:=hc;exact ⟨g,cap,e⟩) hz fun w' h1 h2 h3=>h undef w' h1 h2 h3,
   fun q V J g pr hx hc hz h hi=>op_st76 hi rfl rfl rfl hx rfl (by obtain ⟨f,_,g,cap,e,_⟩:=hc;exact ⟨g,cap,e⟩) hz fun w' h1 h2 h3=>h undef w' h1 h2 h3,trivial⟩
  intro q V hB hx hI
  exact ⟨_,rfl,f2,f3,got_mk hI (b:=⟨12,14,5⟩) (by simp) (Nat.le_trans E.low.size (Nat.le_refl _)) (hx 5 (by decide) (by simp)),got_mk hI (b:=⟨13,15,11⟩) (by simp) (Nat.le_trans E.low.size (Nat.le_refl _)) (hx 11 (by decide) (by simp)),bw hB⟩
 rintro a' V0 ⟨g,rfl,g2,g3,hg6,hg7,hB⟩
 rw[frN47]
 replace E:=E.below hB
 have E:=Aside0.mk E
 clear hl
 obtain ⟨b6,v6,k6,hg6,o6,X6,P6,F6⟩:=hg6
 have X6:=Aside0.mk X6
 have P6:=Aside0.mk P6
 have F6:=Aside0.mk F6
 obtain ⟨b7,v7,k7,hg7,o7,X7,P7,F7⟩:=hg7
 have X7:=Aside0.mk X7
 have P7:=Aside0.mk P7
 have F7:=Aside0.mk F7
 have hmf:∀(fn:Fn) (first cap:Array Value) (w:World),(Instr.makeFunc fn first cap).run Tryz.prog w= .ok (.func fn first cap) w:=fun _ _ _ _=>rfl
 go_wp2_with fail
 go_ret
 replace E:=E.out
 have hl:=HL.out
 rw[HR.out,F6.out,F7.out]
 exact PrdRet.yes E.low (clo87 (bp:=bp) (mb:=mb) (Bb:=0) (Bt:=0) (s:=s) (t:=t) (A1:=none) (c1:=0) (A2:=none) (c2:=0) (fr_box X6.out (.inr o6)) P6.out (fr_box X7.out (.inr o7)) P7.out)
end
section
attribute [local go_sem] Oper.semAt_some
set_option maxHeartbeats 4000000 in
set_option maxRecDepth 100000 in
theorem verb_and (s:Sg) (n:Nat) (t:S30) (hn:nodes t≤n+1) (hres:resP t=true) (h86:VerbC s n) (w0 w:World) (bp mb:Nat) (A1:Option Addr) (c1:Nat) (A2:Option Addr) (c2:Nat) (h0:Below w0.heap.size w0 w) (hb:Bld w0 bp mb s) (tv:TreeV w0 t A1 c1 A2 c2) (ef:t.f0=nAndVP) (hl:t.f2.length=2) (hf0:formedP structL (kidOf t 0) cVP=true) (hf1:formedP structL (kidOf t 1) cVP=true) :
  Calls Tryz.prog 86 #[.pointer (some ⟨bp,0,none⟩),.agg #[.string t.f0,.slice A1 t.f1.length c1,.slice A2 t.f2.length c2]] w (PrdRet w (fun k=>k<w0.heap.size) (verbP s (n+1) t)):=by
 have E:=ent_mk h0 hb tv
 obtain ⟨ad0,B01,d01,B02,d02,e0,y00,y01,y02,l01,i01,l02,i02⟩:=at_T30 E.tv0.k 0 (by omega) (by omega)
 subst e0
 obtain ⟨ad1,B11,d11,B12,d12,e1,y10,y11,y12,l11,i11,l12,i12⟩:=at_T30 E.tv0.k 1 (by omega) (by omega)
 obtain rfl:=Option.some.inj e1
 have q0:(t.f0.toList == ([65,110,100,86,80]:List UInt8))=true:=by rw[ef];decide +kernel
 have HR:verbP s (n+1) t=(verbP s n (kidOf t 0)).bind fun v=>(verbP s n (kidOf t 1)).map fun w=>joinP v w:=by
  rw[verbP];simp only[isF,show (t.f0.toList == bAndVP)=true from q0];rfl
 generalize verbP s (n+1) t=r at *
 have HR:=Aside0.mk HR
 have x0:=blk_cell E.bt 0
 simp at x0
 have E:=Aside0.mk E
 have HL:=Aside0.mk hl
 clear h0 hb tv ef hl
 go_enter Tryz.func86,Tryz.ntmps86
 go_wp2_with fail
 clear x0
 replace E:=E.out
 have hl:=HL.out
 generalize hV2:((w.alloc (.cells #[.pointer (some ⟨bp,0,none⟩)] 73)).alloc (.cells #[.string t.f0,.slice A1 t.f1.length c1,.slice (some ad0) t.f2.length c2] 30))=W2 at *
 clear hV2
 refine wp_onNP (fun a' w' =>∃g,a' =frN 47 g∧g 2= .pointer (some ⟨w.heap.size,0,none⟩)∧g 3= .pointer (some ⟨w.heap.size+1,0,none⟩)∧Got w0 w w' (g 5) (verbP s n (kidOf t 0))∧Got w0 w w' (g 6) (verbP s n (kidOf t 1))∧Below W2.heap.size W2 w') (fun w' =>r=none∧Below w.heap.size w w') (to_frN 47 rfl fun f hf=> ?_) ?_ (fun a' w' hd h=>by obtain ⟨e,hB⟩:=h;refine ⟨hd,?_⟩;rw[e];exact PrdRet.no hB)
 ·have f2:f 2=_:=hf 2
  have f3:f 3=_:=hf 3
  have b0:∀{V},Below W2.drew.heap.size W2.drew V→Below w0.heap.size w0 V:=fun hB=>below_step E.b0 (below_step (below_drew (Below.refl _ _)) hB)
  have bw:∀{V},Below W2.drew.heap.size W2.drew V→Below W2.heap.size W2 V:=fun hB=>below_step (below_drew (Below.refl _ _)) hB
  refine region_box 76 #[.nilFunc] (fun v=> #[v]) 47 [.is (.pointer (some ⟨bp,0,none⟩)),.is (.pointer (some ⟨w.heap.size+1,2,none⟩)),.is (.slice (some ad0) t.f2.length c2),.is (.pointer (some (ad0.add ((0:Int).toNat*3)))),.is (.agg #[.string (kidOf t 0).f0,.slice B01 (kidOf t 0).f1.length d01,.slice B02 (kidOf t 0).f2.length d02]),.fn (fun k=>k<w0.heap.size∨w.heap.size≤k) (verbP s n (kidOf t 0)),.is (.pointer (some ⟨bp,0,none⟩)),.is (.pointer (some ⟨w.heap.size+1,2,none⟩)),.is (.slice (some ad0) t.f2.length c2),.is (.pointer (some (ad0.add ((1:Int).toNat*3)))),.is (.agg #[.string (kidOf t 1).f0,.slice B11 (kidOf t 1).f1.length d11,.slice B12 (kidOf t 1).f2.length d12]),.fn (fun k=>k<w0.heap.size∨w.heap.size≤k) (verbP s n (kidOf t 1)),.top,.top,.top,.top] [⟨12,14,5⟩,⟨13,15,11⟩] [11,12,13,14,15,16,17,18,19,20,21,22,5,6,914,915] f W2 (by kernel_rfl) (by kernel_rfl) (by kernel_rfl) ?_ ?_ ?_
  ·intro j hj v w pr
   have hj2:j=12∨j=13∨j=14∨j=15:=by
    refine Classical.byContradiction fun hn=>hj ?_
    intro b hb
    simp at hb
    rcases hb with rfl | rfl<;>simp<;>omega
   rcases hj2 with rfl | rfl | rfl | rfl<;>trivial
  ·exact ⟨fun q V J pr hB hp hq h hi=>op_ld73 hi rfl rfl f2 (E.bb.below (bw hB)) (h _ _ rfl (.refl _ _)),
   fun q V J pr hB hp hq h hi=>op_fa (c:=2) hi rfl rfl f3 (h _ _ rfl (.refl _ _)),
   fun q V J pr hB hp hq h hi=>op_ld28 hi rfl rfl (hq 1 rfl) (blk_cell (blk_below E.bt (bw hB)) 2) (h _ _ rfl (.refl _ _)),
   fun q V J pr hB hp hq h hi=>op_ix hi rfl rfl (eq_true (by decide)) (eq_true (by omega)) (hq 2 rfl) (h _ _ rfl (.refl _ _)),
   fun q V J pr hB hp hq h hi=>op_ldT hi rfl rfl (hq 3 rfl) (pw_cell_below (b0 hB) y00) (pw_cell_below (b0 hB) y01) (pw_cell_below (b0 hB) y02) (h _ _ rfl (.refl _ _)),
   fun q V J pr hB hp hq h hi=>op_prdT (enters_of Tryz.func86 (by kernel_rfl) rfl) hi rfl rfl (hq 0 rfl) (hq 4 rfl) (h86 (kidOf t 0) (by have:=nodes_kid (t:=t) (i:=0) (by omega);omega) hf0 (res_kid hres (by omega)) w0 V bp mb B01 d01 B02 d02 (b0 hB) E.bld0 ⟨l01,i01,l02,i02⟩) rfl (fun e w' b=>⟨by rw[HR.out,e];rfl,below_step E.low (below_step (bw hB) b)⟩) (fun k hk=>⟨Nat.le_trans E.b0.size (hp k hk).1,(hp k hk).2⟩) (Nat.le_trans E.low.size (bw hB).size) h,
   fun q V J pr hB hp hq h hi=>op_ld73 hi rfl rfl f2 (E.bb.below (bw hB)) (h _ _ rfl (.refl _ _)),
   fun q V J pr hB hp hq h hi=>op_fa (c:=2) hi rfl rfl f3 (h _ _ rfl (.refl _ _)),
   fun q V J pr hB hp hq h hi=>op_ld28 hi rfl rfl (hq 7 rfl) (blk_cell (blk_below E.bt (bw hB)) 2) (h _ _ rfl (.refl _ _)),
   fun q V J pr hB hp hq h hi=>op_ix hi rfl rfl (eq_true (by decide)) (eq_true (by omega)) (hq 8 rfl) (h _ _ rfl (.refl _ _)),
   fun q V J pr hB hp hq h hi=>op_ldT hi rfl rfl (hq 9 rfl) (pw_cell_below (b0 hB) y10) (pw_cell_below (b0 hB) y11) (pw_cell_below (b0 hB) y12) (h _ _ rfl (.refl _ _)),
   fun q V J pr hB hp hq h hi=>op_prdT (enters_of Tryz.func86 (by kernel_rfl) rfl) hi rfl rfl (hq 6 rfl) (hq 10 rfl) (h86 (kidOf t 1) (by have:=nodes_kid (t:=t) (i:=1) (by omega);omega) hf1 (res_kid hres (by omega)) w0 V bp mb B11 d11 B12 d12 (b0 hB) E.bld0 ⟨l11,i11,l12,i12⟩) rfl (fun e w' b=>⟨by obtain ⟨f5,e5,_⟩:=hq 5 rfl;rw[HR.out,e5,e];rfl,below_step E.low (below_step (bw hB) b)⟩) (fun k hk=>⟨Nat.le_trans E.b0.size (hp k hk).1,(hp k hk).2⟩) (Nat.le_trans E.low.size (bw hB).size) h,
   fun q V J h hi=>op_new76 hi rfl rfl h,
   fun q V J h hi=>op_new76 hi rfl rfl h,
   fun q V J g pr hx hc hz h hi=>op_st76 hi rfl rfl rfl hx rfl (by obtain ⟨f,_,g,cap,e,_⟩:=hc;exact ⟨g,cap,e⟩) hz fun w' h1 h2 h3=>h undef w' h1 h2 h3,
   fun q V J g pr hx hc hz h hi=>op_st76 hi rfl rfl rfl hx rfl (by obtain ⟨f,_,g,cap,e,_⟩:=hc;exact ⟨g,cap,e⟩) hz fun w' h1 h2 h3=>h undef w' h1 h2 h3,trivial⟩
  intro q V hB hx hI
  exact ⟨_,rfl,f2,f3,got_mk hI (b:=⟨12,14,5⟩) (by simp) (Nat.le_trans E.low.size (Nat.le_refl _)) (hx 5 (by decide) (by simp)),got_mk hI (b:=⟨13,15,11⟩) (by simp) (Nat.le_trans E.low.size (Nat.le_refl _)) (hx 11 (by decide) (by simp)),bw hB⟩
 rintro a' V0 ⟨g,rfl,g2,g3,hg5,hg6,hB⟩
 rw[frN47]
 replace E:=E.below hB
 have E:=Aside0.mk E
 clear hl
 obtain ⟨b5,v5,k5,hg5,o5,X5,P5,F5⟩:=hg5
 have X5:=Aside0.mk X5
 have P5:=Aside0.mk P5
 have F5:=Aside0.mk F5
 obtain ⟨b6,v6,k6,hg6,o6,X6,P6,F6⟩:=hg6
 have X6:=Aside0.mk X6
 have P6:=Aside0.mk P6
 have F6:=Aside0.mk F6
 have hmf:∀(fn:Fn) (first cap:Array Value) (w:World),(Instr.makeFunc fn first cap).run Tryz.prog w= .ok (.func fn first cap) w:=fun _ _ _ _=>rfl
 go_wp2_with fail
 go_ret
 replace E:=E.out
 have hl:=HL.out
 rw[HR.out,F5.out,F6.out]
 exact PrdRet.yes E.low (clo129 (bp:=bp) (mb:=mb) (Bb:=0) (Bt:=0) (s:=s) (t:=t) (A1:=none) (c1:=0) (A2:=none) (c2:=0) (fr_box X5.out (.inr o5)) P5.out (fr_box X6.out (.inr o6)) P6.out)
set_option maxHeartbeats 4000000 in
set_option maxRecDepth 100000 in
theorem verb_act (s:Sg) (n:Nat) (t:S30) (hn:nodes t≤n+1) (hres:resP t=true) (w0 w:World) (bp mb:Nat) (A1:Option Addr) (c1:Nat) (A2:Option Addr) (c2:Nat) (h0:Below w0.heap.size w0 w) (hb:Bld w0 bp mb s) (tv:TreeV w0 t A1 c1 A2 c2) (ef:t.f0=nAct) (hl:t.f2.length=1) (hlv:t.f1.length=0) :
  Calls Tryz.prog 86 #[.pointer (some ⟨bp,0,none⟩),.agg #[.string t.f0,.slice A1 t.f1.length c1,.slice A2 t.f2.length c2]] w (PrdRet w (fun k=>k<w0.heap.size) (verbP s (n+1) t)):=by
 have E:=ent_mk h0 hb tv
 obtain ⟨ad0,B01,d01,B02,d02,e0,y00,y01,y02,l01,i01,l02,i02⟩:=at_T30 E.tv0.k 0 (by omega) (by omega)
 subst e0
 have q0:(t.f0.toList == ([65,110,100,86,80]:List UInt8))=false:=by rw[ef];decide +kernel
 have q1:(t.f0.toList == ([65,99,116]:List UInt8))=true:=by rw[ef];decide +kernel
 have HR:verbP s (n+1) t=(predP s.ps (kidOf t 0).f0).map fun _=>fun depth x=>atomP s.ps (kidOf t 0).f0 depth [x]:=by
  rw[verbP];simp only[isF,show (t.f0.toList == bAndVP)=false from q0,show (t.f0.toList == bAct)=true from q1];rfl
 generalize verbP s (n+1) t=r at *
 have HR:=Aside0.mk HR
 have x0:=blk_cell E.bt 0
 simp at x0
 have E:=Aside0.mk E
 have HL:=Aside0.mk hl
 clear h0 hb tv ef hl
 have HLV:=Aside0.mk hlv
 clear hlv
 go_enter Tryz.func86,Tryz.ntmps86
 go_wp2_with fail
 clear x0
 replace E:=E.out
 have hl:=HL.out
 generalize hV2:((w.alloc (.cells #[.pointer (some ⟨bp,0,none⟩)] 73)).alloc (.cells #[.string t.f0,.slice A1 t.f1.length c1,.slice (some ad0) t.f2.length c2] 30))=W2 at *
 clear hV2
 refine wp_onNP (fun a' w' =>∃g,a' =frN 47 g∧g 2= .pointer (some ⟨w.heap.size,0,none⟩)∧g 3= .pointer (some ⟨w.heap.size+1,0,none⟩)∧(predP s.ps (kidOf t 0).f0).isSome=true∧Below W2.heap.size W2 w') (fun w' =>r=none∧Below w.heap.size w w') (to_frN 47 rfl fun f hf=> ?_) ?_ (fun a' w' hd h=>by obtain ⟨e,hB⟩:=h;refine ⟨hd,?_⟩;rw[e];exact PrdRet.no hB)
 ·have f2:f 2=_:=hf 2
  have f3:f 3=_:=hf 3
  have b0:∀{V},Below W2.drew.heap.size W2.drew V→Below w0.heap.size w0 V:=fun hB=>below_step E.b0 (below_step (below_drew (Below.refl _ _)) hB)
  have bw:∀{V},Below W2.drew.heap.size W2.drew V→Below W2.heap.size W2 V:=fun hB=>below_step (below_drew (Below.refl _ _)) hB
  refine region_box 76 #[.nilFunc] (fun v=> #[v]) 47 [.is (.pointer (some ⟨bp,0,none⟩)),.is (.pointer (some ⟨w.heap.size+1,2,none⟩)),.is (.slice (some ad0) t.f2.length c2),.is (.pointer (some (ad0.add ((0:Int).toNat*3)))),.is (.agg #[.string (kidOf t 0).f0,.slice B01 (kidOf t 0).f1.length d01,.slice B02 (kidOf t 0).f2.length d02]),.pf ((predP s.ps (kidOf t 0).f0).isSome=true)] [] [24,25,26,27,28,29] f W2 (by kernel_rfl) (by kernel_rfl) (by kernel_rfl) (fun j hj=>absurd (fun b hb=>by cases hb) hj) ?_ ?_
  ·exact ⟨fun q V J pr hB hp hq h hi=>op_ld73 hi rfl rfl f2 (E.bb.below (bw hB)) (h _ _ rfl (.refl _ _)),
   fun q V J pr hB hp hq h hi=>op_fa (c:=2) hi rfl rfl f3 (h _ _ rfl (.refl _ _)),
   fun q V J pr hB hp hq h hi=>op_ld28 hi rfl rfl (hq 1 rfl) (blk_cell (blk_below E.bt (bw hB)) 2) (h _ _ rfl (.refl _ _)),
   fun q V J pr hB hp hq h hi=>op_ix hi rfl rfl (eq_true (by decide)) (eq_true (by omega)) (hq 2 rfl) (h _ _ rfl (.refl _ _)),
   fun q V J pr hB hp hq h hi=>op_ldT hi rfl rfl (hq 3 rfl) (pw_cell_below (b0 hB) y00) (pw_cell_below (b0 hB) y01) (pw_cell_below (b0 hB) y02) (h _ _ rfl (.refl _ _)),
   fun q V J pr hB hp hq h hi=>op_known hi rfl rfl (hq 0 rfl) (hq 4 rfl) (E.bld.below (bw hB)) rfl (fun e w' b=>⟨by rw[HR.out,e];rfl,below_step E.low (below_step (bw hB) b)⟩) h,trivial⟩
  intro q V hB hx hI
  exact ⟨_,rfl,f2,f3,hx 5 (by decide) (by simp),bw hB⟩
 rintro a' V0 ⟨g,rfl,g2,g3,hsome,hB⟩
 rw[frN47]
 replace E:=E.below hB
 obtain ⟨p,hpp⟩:=Option.isSome_iff_exists.1 hsome
 have HP:=Aside0.mk hpp
 clear hpp hsome
 have E:=Aside0.mk E
 clear hl
 have hmf:∀(fn:Fn) (first cap:Array Value) (w:World),(Instr.makeFunc fn first cap).run Tryz.prog w= .ok (.func fn first cap) w:=fun _ _ _ _=>rfl
 have t0:=(blk_cell E.out.bt 0).trans rfl
 simp at t0
 go_wp2
 go_ret
 replace E:=E.out
 have hl:=HL.out
 rw[HR.out,HP.out]
 exact PrdRet.yes E.low (clo130 (E.fb (.refl _ _)) (E.fbb (.refl _ _)) (E.ft (.refl _ _)) (by omega))
set_option maxHeartbeats 4000000 in
set_option maxRecDepth 100000 in
theorem verb_do (s:Sg) (n:Nat) (t:S30) (hn:nodes t≤n+1) (hres:resP t=true) (h133:ApplyN s n) (w0 w:World) (bp mb:Nat) (A1:Option Addr) (c1:Nat) (A2:Option Addr) (c2:Nat) (h0:Below w0.heap.size w0 w) (hb:Bld w0 bp mb s) (tv:TreeV w0 t A1 c1 A2 c2) (ef:t.f0=nDo) (hl:t.f2.length=2) (hlv:t.f1.length=0) (hf1:formedP structL (kidOf t 1) cNP=true) :
  Calls Tryz.prog 86 #[.pointer (some ⟨bp,0,none⟩),.agg #[.string t.f0,.slice A1 t.f1.length c1,.slice A2 t.f2.length c2]] w (PrdRet w (fun k=>k<w0.heap.size) (verbP s (n+1) t)):=by
 have E:=ent_mk h0 hb tv
 obtain ⟨ad0,B01,d01,B02,d02,e0,y00,y01,y02,l01,i01,l02,i02⟩:=at_T30 E.tv0.k 0 (by omega) (by omega)
 subst e0
 have q0:(t.f0.toList == ([65,110,100,86,80]:List UInt8))=false:=by rw[ef];decide +kernel
 have q1:(t.f0.toList == ([65,99,116]:List UInt8))=false:=by rw[ef];decide +kernel
 have q2:(t.f0.toList == ([67,111,115,116]:List UInt8))=false:=by rw[ef];decide +kernel
 have q3:(t.f0.toList == ([68,111]:List UInt8))=true:=by rw[ef];decide +kernel
 have HR:verbP s (n+1) t=(predP s.ps (kidOf t 0).f0).map fun _=>fun depth x=>applyP s n (kidOf t 1) depth (fun d y=>atomP s.ps (kidOf t 0).f0 d [x,y]):=by
  rw[verbP];simp only[isF,show (t.f0.toList == bAndVP)=false from q0,show (t.f0.toList == bAct)=false from q1,show (t.f0.toList == bCost)=false from q2,show (t.f0.toList == bDo)=true from q3];rfl
 generalize verbP s (n+1) t=r at *
 have HR:=Aside0.mk HR
 have x0:=blk_cell E.bt 0
 simp at x0
 have E:=Aside0.mk E
 have HL:=Aside0.mk hl
 clear h0 hb tv ef hl
 have HLV:=Aside0.mk hlv
 clear hlv
 go_enter Tryz.func86,Tryz.ntmps86
 go_wp2_with fail
 clear x0
 replace E:=E.out
 have hl:=HL.out
 generalize hV2:((w.alloc (.cells #[.pointer (some ⟨bp,0,none⟩)] 73)).alloc (.cells #[.string t.f0,.slice A1 t.f1.length c1,.slice (some ad0) t.f2.length c2] 30))=W2 at *
 clear hV2
 refine wp_onNP (fun a' w' =>∃g,a' =frN 47 g∧g 2= .pointer (some ⟨w.heap.size,0,none⟩)∧g 3= .pointer (some ⟨w.heap.size+1,0,none⟩)∧(predP s.ps (kidOf t 0).f0).isSome=true∧Below W2.heap.size W2 w') (fun w' =>r=none∧Below w.heap.size w w') (to_frN 47 rfl fun f hf=> ?_) ?_ (fun a' w' hd h=>by obtain ⟨e,hB⟩:=h;refine ⟨hd,?_⟩;rw[e];exact PrdRet.no hB)
 ·have f2:f 2=_:=hf 2
  have f3:f 3=_:=hf 3
  have b0:∀{V},Below W2.drew.heap.size W2.drew V→Below w0.heap.size w0 V:=fun hB=>below_step E.b0 (below_step (below_drew (Below.refl _ _)) hB)
  have bw:∀{V},Below W2.drew.heap.size W2.drew V→Below W2.heap.size W2 V:=fun hB=>below_step (below_drew (Below.refl _ _)) hB
  refine region_box 76 #[.nilFunc] (fun v=> #[v]) 47 [.is (.pointer (some ⟨bp,0,none⟩)),.is (.pointer (some ⟨w.heap.size+1,2,none⟩)),.is (.slice (some ad0) t.f2.length c2),.is (.pointer (some (ad0.add ((0:Int).toNat*3)))),.is (.agg #[.string (kidOf t 0).f0,.slice B01 (kidOf t 0).f1.length d01,.slice B02 (kidOf t 0).f2.length d02]),.pf ((predP s.ps (kidOf t 0).f0).isSome=true)] [] [24,25,26,27,28,29] f W2 (by kernel_rfl) (by kernel_rfl) (by kernel_rfl) (fun j hj=>absurd (fun b hb=>by cases hb) hj) ?_ ?_
  ·exact ⟨fun q V J pr hB hp hq h hi=>op_ld73 hi rfl rfl f2 (E.bb.below (bw hB)) (h _ _ rfl (.refl _ _)),
   fun q V J pr hB hp hq h hi=>op_fa (c:=2) hi rfl rfl f3 (h _ _ rfl (.refl _ _)),
   fun q V J pr hB hp hq h hi=>op_ld28 hi rfl rfl (hq 1 rfl) (blk_cell (blk_below E.bt (bw hB)) 2) (h _ _ rfl (.refl _ _)),
   fun q V J pr hB hp hq h hi=>op_ix hi rfl rfl (eq_true (by decide)) (eq_true (by omega)) (hq 2 rfl) (h _ _ rfl (.refl _ _)),
   fun q V J pr hB hp hq h hi=>op_ldT hi rfl rfl (hq 3 rfl) (pw_cell_below (b0 hB) y00) (pw_cell_below (b0 hB) y01) (pw_cell_below (b0 hB) y02) (h _ _ rfl (.refl _ _)),
   fun q V J pr hB hp hq h hi=>op_known hi rfl rfl (hq 0 rfl) (hq 4 rfl) (E.bld.below (bw hB)) rfl (fun e w' b=>⟨by rw[HR.out,e];rfl,below_step E.low (below_step (bw hB) b)⟩) h,trivial⟩
  intro q V hB hx hI
  exact ⟨_,rfl,f2,f3,hx 5 (by decide) (by simp),bw hB⟩
 rintro a' V0 ⟨g,rfl,g2,g3,hsome,hB⟩
 rw[frN47]
 replace E:=E.below hB
 obtain ⟨p,hpp⟩:=Option.isSome_iff_exists.1 hsome
 have HP:=Aside0.mk hpp
 clear hpp hsome
 have E:=Aside0.mk E
 clear hl
 have hmf:∀(fn:Fn) (first cap:Array Value) (w:World),(Instr.makeFunc fn first cap).run Tryz.prog w= .ok (.func fn first cap) w:=fun _ _ _ _=>rfl
 have t0:=(blk_cell E.out.bt 0).trans rfl
 simp at t0
 go_wp2
 go_ret
 replace E:=E.out
 have hl:=HL.out
 rw[HR.out,HP.out]
 exact PrdRet.yes E.low (clo132 (E.fb (.refl _ _)) (E.fbb (.refl _ _)) (E.ft (.refl _ _)) (by omega) (fun W hW=>(h133 (kidOf t 1) (by have:=nodes_kid (t:=t) (i:=1) (by omega);omega) hf1 (res_kid hres (by omega)) W bp mb (E.fb (.refl _ _) W hW))))
set_option maxHeartbeats 4000000 in
set_option maxRecDepth 100000 in
theorem verb_give (s:Sg) (n:Nat) (t:S30) (hn:nodes t≤n+1) (hres:resP t=true) (h133:ApplyN s n) (w0 w:World) (bp mb:Nat) (A1:Option Addr) (c1:Nat) (A2:Option Addr) (c2:Nat) (h0:Below w0.heap.size w0 w) (hb:Bld w0 bp mb s) (tv:TreeV w0 t A1 c1 A2 c2) (ef:t.f0=nGive) (hl:t.f2.length=3) (hlv:t.f1.length=0) (hf1:formedP structL (kidOf t 1) cNP=true) (hf2:formedP structL (kidOf t 2) cNP=true) :
  Calls Tryz.prog 86 #[.pointer (some ⟨bp,0,none⟩),.agg #[.string t.f0,.slice A1 t.f1.length c1,.slice A2 t.f2.length c2]] w (PrdRet w (fun k=>k<w0.heap.size) (verbP s (n+1) t)):=by
 have E:=ent_mk h0 hb tv
 obtain ⟨ad0,B01,d01,B02,d02,e0,y00,y01,y02,l01,i01,l02,i02⟩:=at_T30 E.tv0.k 0 (by omega) (by omega)
 subst e0
 have q0:(t.f0.toList == ([65,110,100,86,80]:List UInt8))=false:=by rw[ef];decide +kernel
 have q1:(t.f0.toList == ([65,99,116]:List UInt8))=false:=by rw[ef];decide +kernel
 have q2:(t.f0.toList == ([67,111,115,116]:List UInt8))=false:=by rw[ef];decide +kernel
 have q3:(t.f0.toList == ([68,111]:List UInt8))=false:=by rw[ef];decide +kernel
 have HR:verbP s (n+1) t=(predP s.ps (kidOf t 0).f0).map fun _=>fun depth x=>applyP s n (kidOf t 1) depth (fun d y=>applyP s n (kidOf t 2) d (fun d2 z=>atomP s.ps (kidOf t 0).f0 d2 [x,y,z])):=by
  rw[verbP];simp only[isF,show (t.f0.toList == bAndVP)=false from q0,show (t.f0.toList == bAct)=false from q1,show (t.f0.toList == bCost)=false from q2,show (t.f0.toList == bDo)=false from q3];rfl
 generalize verbP s (n+1) t=r at *
 have HR:=Aside0.mk HR
 have x0:=blk_cell E.bt 0
 simp at x0
 have E:=Aside0.mk E
 have HL:=Aside0.mk hl
 clear h0 hb tv ef hl
 have HLV:=Aside0.mk hlv
 clear hlv
 go_enter Tryz.func86,Tryz.ntmps86
 go_wp2_with fail
 clear x0
 replace E:=E.out
 have hl:=HL.out
 generalize hV2:((w.alloc (.cells #[.pointer (some ⟨bp,0,none⟩)] 73)).alloc (.cells #[.string t.f0,.slice A1 t.f1.length c1,.slice (some ad0) t.f2.length c2] 30))=W2 at *
 clear hV2
 refine wp_onNP (fun a' w' =>∃g,a' =frN 47 g∧g 2= .pointer (some ⟨w.heap.size,0,none⟩)∧g 3= .pointer (some ⟨w.heap.size+1,0,none⟩)∧(predP s.ps (kidOf t 0).f0).isSome=true∧Below W2.heap.size W2 w') (fun w' =>r=none∧Below w.heap.size w w') (to_frN 47 rfl fun f hf=> ?_) ?_ (fun a' w' hd h=>by obtain ⟨e,hB⟩:=h;refine ⟨hd,?_⟩;rw[e];exact PrdRet.no hB)
 ·have f2:f 2=_:=hf 2
  have f3:f 3=_:=hf 3
  have b0:∀{V},Below W2.drew.heap.size W2.drew V→Below w0.heap.size w0 V:=fun hB=>below_step E.b0 (below_step (below_drew (Below.refl _ _)) hB)
  have bw:∀{V},Below W2.drew.heap.size W2.drew V→Below W2.heap.size W2 V:=fun hB=>below_step (below_drew (Below.refl _ _)) hB
  refine region_box 76 #[.nilFunc] (fun v=> #[v]) 47 [.is (.pointer (some ⟨bp,0,none⟩)),.is (.pointer (some ⟨w.heap.size+1,2,none⟩)),.is (.slice (some ad0) t.f2.length c2),.is (.pointer (some (ad0.add ((0:Int).toNat*3)))),.is (.agg #[.string (kidOf t 0).f0,.slice B01 (kidOf t 0).f1.length d01,.slice B02 (kidOf t 0).f2.length d02]),.pf ((predP s.ps (kidOf t 0).f0).isSome=true)] [] [24,25,26,27,28,29] f W2 (by kernel_rfl) (by kernel_rfl) (by kernel_rfl) (fun j hj=>absurd (fun b hb=>by cases hb) hj) ?_ ?_
  ·exact ⟨fun q V J pr hB hp hq h hi=>op_ld73 hi rfl rfl f2 (E.bb.below (bw hB)) (h _ _ rfl (.refl _ _)),
   fun q V J pr hB hp hq h hi=>op_fa (c:=2) hi rfl rfl f3 (h _ _ rfl (.refl _ _)),
   fun q V J pr hB hp hq h hi=>op_ld28 hi rfl rfl (hq 1 rfl) (blk_cell (blk_below E.bt (bw hB)) 2) (h _ _ rfl (.refl _ _)),
   fun q V J pr hB hp hq h hi=>op_ix hi rfl rfl (eq_true (by decide)) (eq_true (by omega)) (hq 2 rfl) (h _ _ rfl (.refl _ _)),
   fun q V J pr hB hp hq h hi=>op_ldT hi rfl rfl (hq 3 rfl) (pw_cell_below (b0 hB) y00) (pw_cell_below (b0 hB) y01) (pw_cell_below (b0 hB) y02) (h _ _ rfl (.refl _ _)),
   fun q V J pr hB hp hq h hi=>op_known hi rfl rfl (hq 0 rfl) (hq 4 rfl) (E.bld.below (bw hB)) rfl (fun e w' b=>⟨by rw[HR.out,e];rfl,below_step E.low (below_step (bw hB) b)⟩) h,trivial⟩
  intro q V hB hx hI
  exact ⟨_,rfl,f2,f3,hx 5 (by decide) (by simp),bw hB⟩
 rintro a' V0 ⟨g,rfl,g2,g3,hsome,hB⟩
 rw[frN47]
 replace E:=E.below hB
 obtain ⟨p,hpp⟩:=Option.isSome_iff_exists.1 hsome
 have HP:=Aside0.mk hpp
 clear hpp hsome
 have E:=Aside0.mk E
 clear hl
 have hmf:∀(fn:Fn) (first cap:Array Value) (w:World),(Instr.makeFunc fn first cap).run Tryz.prog w= .ok (.func fn first cap) w:=fun _ _ _ _=>rfl
 have t0:=(blk_cell E.out.bt 0).trans rfl
 simp at t0
 go_wp2
 go_ret
 replace E:=E.out
 have hl:=HL.out
 rw[HR.out,HP.out]
 exact PrdRet.yes E.low (clo135 (E.fb (.refl _ _)) (E.fbb (.refl _ _)) (E.ft (.refl _ _)) (by omega) (fun W hW=>(h133 (kidOf t 1) (by have:=nodes_kid (t:=t) (i:=1) (by omega);omega) hf1 (res_kid hres (by omega)) W bp mb (E.fb (.refl _ _) W hW))) (by omega) (fun W hW=>(h133 (kidOf t 2) (by have:=nodes_kid (t:=t) (i:=2) (by omega);omega) hf2 (res_kid hres (by omega)) W bp mb (E.fb (.refl _ _) W hW))))
set_option maxHeartbeats 4000000 in
set_option maxRecDepth 100000 in
theorem verb_cost (s:Sg) (n:Nat) (t:S30) (hn:nodes t≤n+1) (hres:resP t=true) (w0 w:World) (bp mb:Nat) (aa:Addr) (c1:Nat) (A2:Option Addr) (c2:Nat) (h0:Below w0.heap.size w0 w) (hb:Bld w0 bp mb s) (tv:TreeV w0 t (some aa) c1 A2 c2) (ef:t.f0=nCost) (hl:t.f2.length=1) (hlv:t.f1.length=1) :
  Calls Tryz.prog 86 #[.pointer (some ⟨bp,0,none⟩),.agg #[.string t.f0,.slice (some aa) t.f1.length c1,.slice A2 t.f2.length c2]] w (PrdRet w (fun k=>k<w0.heap.size) (verbP s (n+1) t)):=by
 have E:=ent_mk h0 hb tv
 obtain ⟨ad0,B01,d01,B02,d02,e0,y00,y01,y02,l01,i01,l02,i02⟩:=at_T30 E.tv0.k 0 (by omega) (by omega)
 subst e0
 have q0:(t.f0.toList == ([65,110,100,86,80]:List UInt8))=false:=by rw[ef];decide +kernel
 have q1:(t.f0.toList == ([65,99,116]:List UInt8))=false:=by rw[ef];decide +kernel
 have q2:(t.f0.toList == ([67,111,115,116]:List UInt8))=true:=by rw[ef];decide +kernel
 have HR:verbP s (n+1) t=(predP s.ps (kidOf t 0).f0).map fun _=>fun depth x=>atomP s.ps (kidOf t 0).f0 depth [x,numTm (rd t.f1 0)]:=by
  rw[verbP];simp only[isF,show (t.f0.toList == bAndVP)=false from q0,show (t.f0.toList == bAct)=false from q1,show (t.f0.toList == bCost)=true from q2];rfl
 generalize verbP s (n+1) t=r at *
 have HR:=Aside0.mk HR
 have x0:=blk_cell E.bt 0
 simp at x0
 have E:=Aside0.mk E
 have HL:=Aside0.mk hl
 clear h0 hb tv ef hl
 have HLV:=Aside0.mk hlv
 clear hlv
 go_enter Tryz.func86,Tryz.ntmps86
 go_wp2_with fail
 clear x0
 replace E:=E.out
 have hl:=HL.out
 generalize hV2:((w.alloc (.cells #[.pointer (some ⟨bp,0,none⟩)] 73)).alloc (.cells #[.string t.f0,.slice (some aa) t.f1.length c1,.slice (some ad0) t.f2.length c2] 30))=W2 at *
 clear hV2
 refine wp_onNP (fun a' w' =>∃g,a' =frN 47 g∧g 2= .pointer (some ⟨w.heap.size,0,none⟩)∧g 3= .pointer (some ⟨w.heap.size+1,0,none⟩)∧(predP s.ps (kidOf t 0).f0).isSome=true∧Below W2.heap.size W2 w') (fun w' =>r=none∧Below w.heap.size w w') (to_frN 47 rfl fun f hf=> ?_) ?_ (fun a' w' hd h=>by obtain ⟨e,hB⟩:=h;refine ⟨hd,?_⟩;rw[e];exact PrdRet.no hB)
 ·have f2:f 2=_:=hf 2
  have f3:f 3=_:=hf 3
  have b0:∀{V},Below W2.drew.heap.size W2.drew V→Below w0.heap.size w0 V:=fun hB=>below_step E.b0 (below_step (below_drew (Below.refl _ _)) hB)
  have bw:∀{V},Below W2.drew.heap.size W2.drew V→Below W2.heap.size W2 V:=fun hB=>below_step (below_drew (Below.refl _ _)) hB
  refine region_box 76 #[.nilFunc] (fun v=> #[v]) 47 [.is (.pointer (some ⟨bp,0,none⟩)),.is (.pointer (some ⟨w.heap.size+1,2,none⟩)),.is (.slice (some ad0) t.f2.length c2),.is (.pointer (some (ad0.add ((0:Int).toNat*3)))),.is (.agg #[.string (kidOf t 0).f0,.slice B01 (kidOf t 0).f1.length d01,.slice B02 (kidOf t 0).f2.length d02]),.pf ((predP s.ps (kidOf t 0).f0).isSome=true)] [] [24,25,26,27,28,29] f W2 (by kernel_rfl) (by kernel_rfl) (by kernel_rfl) (fun j hj=>absurd (fun b hb=>by cases hb) hj) ?_ ?_
  ·exact ⟨fun q V J pr hB hp hq h hi=>op_ld73 hi rfl rfl f2 (E.bb.below (bw hB)) (h _ _ rfl (.refl _ _)),
   fun q V J pr hB hp hq h hi=>op_fa (c:=2) hi rfl rfl f3 (h _ _ rfl (.refl _ _)),
   fun q V J pr hB hp hq h hi=>op_ld28 hi rfl rfl (hq 1 rfl) (blk_cell (blk_below E.bt (bw hB)) 2) (h _ _ rfl (.refl _ _)),
   fun q V J pr hB hp hq h hi=>op_ix hi rfl rfl (eq_true (by decide)) (eq_true (by omega)) (hq 2 rfl) (h _ _ rfl (.refl _ _)),
   fun q V J pr hB hp hq h hi=>op_ldT hi rfl rfl (hq 3 rfl) (pw_cell_below (b0 hB) y00) (pw_cell_below (b0 hB) y01) (pw_cell_below (b0 hB) y02) (h _ _ rfl (.refl _ _)),
   fun q V J pr hB hp hq h hi=>op_known hi rfl rfl (hq 0 rfl) (hq 4 rfl) (E.bld.below (bw hB)) rfl (fun e w' b=>⟨by rw[HR.out,e];rfl,below_step E.low (below_step (bw hB) b)⟩) h,trivial⟩
  intro q V hB hx hI
  exact ⟨_,rfl,f2,f3,hx 5 (by decide) (by simp),bw hB⟩
 rintro a' V0 ⟨g,rfl,g2,g3,hsome,hB⟩
 rw[frN47]
 replace E:=E.below hB
 obtain ⟨p,hpp⟩:=Option.isSome_iff_exists.1 hsome
 have HP:=Aside0.mk hpp
 clear hpp hsome
 have E:=Aside0.mk E
 clear hl
 have hmf:∀(fn:Fn) (first cap:Array Value) (w:World),(Instr.makeFunc fn first cap).run Tryz.prog w= .ok (.func fn first cap) w:=fun _ _ _ _=>rfl
 have hkv:0<t.f1.length:=by have:=HLV.out;omega
 have v0:=Kd.foot_int E.out.tv0.v 0 (Int.le_refl _) (by omega)
 rw[show aa.add (0:Int).toNat=aa from Addr.add_zero' aa]at v0
 have v1:=pw_cell_below E.out.b0 v0
 have t1:=(blk_cell E.out.bt 1).trans rfl
 simp at t1
 have HN:=Aside0.mk (fun (V:World) (b:Nat) (h:V.heap[b]? =some (.cells #[.int .i64 4,.string ⟨#[]⟩,.int .i64 (rd t.f1 0),.string ⟨#[110,117,109,98,101,114]⟩] 79 (0,0)))=>(show TmAt V b (numTm (rd t.f1 0))from h))
 clear v0
 have t0:=(blk_cell E.out.bt 0).trans rfl
 simp at t0
 go_wp2
 go_ret
 replace E:=E.out
 have hl:=HL.out
 rw[HR.out,HP.out]
 exact PrdRet.yes (below_alloc E.low _) (clo131 (E.fb (below_alloc (.refl _ _) _)) (E.fbb (below_alloc (.refl _ _) _)) (E.ft (below_alloc (.refl _ _) _)) (by omega) (fr_tm (HN.out _ _ (blk_new V0 _)) (.inr E.low.size)))
end
section
attribute [local go_sem] Oper.semAt_some
theorem sortOf_ev (cs:List S105) (x:ByteArray) (hl:cs.length≤2000000):∀(n:Nat) (i:Int),0≤i→i+n=cs.length→Ev (fun k=>signature_SortOf.l0 k x cs (cs.length:Int) i) (match sortOfP (cs.drop i.toNat) x with | some y=>(y,true) | none=>(⟨#[]⟩,false))
 |0,i,h0,hi=>by
  refine Ev.step (f:=fun _=>some ((⟨#[]⟩:ByteArray),false)) (fun k=> ?_) (Ev.pure_ (fun k=> ?_))
  ·rw[signature_SortOf.l0,if_neg (by omega)]
  ·rw[List.drop_eq_nil_of_le (by omega)];rfl
 |n+1,i,h0,hi=>by
  have ih:=sortOf_ev cs x hl n (i+1) (by omega) (by omega)
  have hw:wrap64 (i+1)=i+1:=wrap_small (by omega) (by omega)
  have hd:=drop_rd105 cs i h0 (by omega)
  by_cases hx:(rd_T105 cs i).f0.toList=x.toList
  ·refine Ev.step (f:=fun _=>some ((rd_T105 cs i).f1,true)) (fun k=> ?_) (Ev.pure_ (fun k=> ?_))
   ·rw[signature_SortOf.l0,if_pos (by omega),if_pos (by omega),if_pos (by omega),if_pos hx]
   ·have hbq:((rd_T105 cs i).f0.toList == x.toList)=true:=by rw[hx];exact beq_self_eq_true _
    rw[hd];unfold sortOfP;rw[List.find?_cons,hbq];rfl
  ·have e:sortOfP (cs.drop i.toNat) x=sortOfP (cs.drop (i+1).toNat) x:=by
    have hbq:((rd_T105 cs i).f0.toList == x.toList)=false:=beq_eq_false_iff_ne.mpr hx
    rw[hd];unfold sortOfP;rw[List.find?_cons,hbq]
   rw[e]
   exact Ev.step (fun k=>by rw[signature_SortOf.l0,if_pos (by omega),if_pos (by omega),if_pos (by omega),if_neg hx,hw]) ih
theorem sortOf_calls (w:World) (s:Sg) (h:s.C w) (x:ByteArray):Calls Tryz.prog 159 #[.agg #[.slice s.A0 s.ss.length s.c0,.slice s.A1 s.cs.length s.c1,.slice s.A2 s.ps.length s.c2],.string x] w fun e w' =>
  (e= .returned (match sortOfP s.cs x with | some y=> .tuple #[.string y,.bool true] | none=> .tuple #[.string ⟨#[]⟩,.bool false]))∧Below w.heap.size w w' :=by
 obtain ⟨k,hk⟩:=(sortOf_ev s.cs x h.m1 s.cs.length 0 (Int.le_refl _) (by omega)).rounds
 have hk' :signature_SortOf.f k s.ss s.cs s.ps x=some (match sortOfP s.cs x with | some y=>(y,true) | none=>(⟨#[]⟩,false)):=hk
 cases hs:sortOfP s.cs x with
 |some y=>rw[hs]at hk';exact signature_SortOf.calls k _ _ _ _ _ _ _ _ _ x y true w h.h0 h.l0 h.h1 h.l1 h.h2 h.l2 hk'
 |none=>rw[hs]at hk';exact signature_SortOf.calls k _ _ _ _ _ _ _ _ _ x ⟨#[]⟩ false w h.h0 h.l0 h.h1 h.l1 h.h2 h.l2 hk'
theorem frN107 (g:Nat→Value):frN 107 g={tmps:= #[g 0,g 1,g 2,g 3,g 4,g 5,g 6,g 7,g 8,g 9,g 10,g 11,g 12,g 13,g 14,g 15,g 16,g 17,g 18,g 19,g 20,g 21,g 22,g 23,g 24,g 25,g 26,g 27,g 28,g 29,g 30,g 31,g 32,g 33,g 34,g 35,g 36,g 37,g 38,g 39,g 40,g 41,g 42,g 43,g 44,g 45,g 46,g 47,g 48,g 49,g 50,g 51,g 52,g 53,g 54,g 55,g 56,g 57,g 58,g 59,g 60,g 61,g 62,g 63,g 64,g 65,g 66,g 67,g 68,g 69,g 70,g 71,g 72,g 73,g 74,g 75,g 76,g 77,g 78,g 79,g 80,g 81,g 82,g 83,g 84,g 85,g 86,g 87,g 88,g 89,g 90,g 91,g 92,g 93,g 94,g 95,g 96,g 97,g 98,g 99,g 100,g 101,g 102,g 103,g 104,g 105,g 106],defers:=[]}:=rfl
theorem z9 {W:World} {k:Nat} (h:W.heap[k]? =some zeroMn):W.frozen? ⟨k,0,none⟩=false∧W.frozen? ⟨k,1,none⟩=false∧W.frozen? ⟨k,2,none⟩=false∧W.frozen? ⟨k,3,none⟩=false∧W.frozen? ⟨k,4,none⟩=false∧W.frozen? ⟨k,5,none⟩=false∧W.frozen? ⟨k,6,none⟩=false∧W.frozen? ⟨k,7,none⟩=false∧W.frozen? ⟨k,8,none⟩=false∧W.cell? ⟨k,0,none⟩=some (.int .i64 0)∧W.cell? ⟨k,1,none⟩=some (.string ⟨#[]⟩)∧W.cell? ⟨k,2,none⟩=some (.slice none 0 0)∧W.cell? ⟨k,3,none⟩=some (.int .i64 0)∧W.cell? ⟨k,4,none⟩=some (.int .i64 0)∧W.cell? ⟨k,5,none⟩=some (.slice none 0 0)∧W.cell? ⟨k,6,none⟩=some (.int .i64 0)∧W.cell? ⟨k,7,none⟩=some (.int .i64 0)∧W.cell? ⟨k,8,none⟩=some (.bool false) :=
 ⟨blk_frozen h 0,blk_frozen h 1,blk_frozen h 2,blk_frozen h 3,blk_frozen h 4,blk_frozen h 5,blk_frozen h 6,blk_frozen h 7,blk_frozen h 8,blk_cell h 0,blk_cell h 1,blk_cell h 2,blk_cell h 3,blk_cell h 4,blk_cell h 5,blk_cell h 6,blk_cell h 7,blk_cell h 8⟩
structure EntA (w W2:World) (bp mb:Nat) (s:Sg) (t:S30) (A1:Option Addr) (c1:Nat) (A2:Option Addr) (c2:Nat) (v:Value) (f:Prd):Prop where
 bt:W2.heap[w.heap.size]? =some (.cells #[.string t.f0,.slice A1 t.f1.length c1,.slice A2 t.f2.length c2] 30 (0,0))
 bf:BoxAt W2 (w.heap.size+1) 76 v
 br:W2.heap[w.heap.size+2]? =some zeroMn
 low:Below w.heap.size w W2
 sz:w.heap.size+3≤W2.heap.size
 bld:Bld w bp mb s
 tv:TreeV w t A1 c1 A2 c2
 pf:PrdV w (fun _=>True) v f
theorem entA_mk {w:World} {bp mb:Nat} {s:Sg} {t:S30} {A1:Option Addr} {c1:Nat} {A2:Option Addr} {c2:Nat} {v:Value} {f:Prd} (hb:Bld w bp mb s) (tv:TreeV w t A1 c1 A2 c2) (hf:PrdV w (fun _=>True) v f):EntA w (((w.alloc (.cells #[.string t.f0,.slice A1 t.f1.length c1,.slice A2 t.f2.length c2] 30)).alloc (.cells #[v] 76)).alloc (.cells #[.int .i64 0,.string ⟨#[]⟩,.slice none 0 0,.int .i64 0,.int .i64 0,.slice none 0 0,.int .i64 0,.int .i64 0,.bool false] 70)) bp mb s t A1 c1 A2 c2 v f :=
 ⟨blk_alloc (blk_alloc (blk_new w _) _) _,blk_alloc (new2 w _ _) _,(by
  have h:=heap_alloc_new ((w.alloc (.cells #[.string t.f0,.slice A1 t.f1.length c1,.slice A2 t.f2.length c2] 30)).alloc (.cells #[v] 76)) zeroMn
  rw[show ((w.alloc (.cells #[.string t.f0,.slice A1 t.f1.length c1,.slice A2 t.f2.length c2] 30)).alloc (.cells #[v] 76)).heap.size=w.heap.size+2 by simp]at h
  exact h),below_alloc (below_alloc (below_alloc (Below.refl _ _) _) _) _,Nat.le_of_eq (by simp),hb,tv,hf⟩
section
variable {w W2 V:World} {bp mb:Nat} {s:Sg} {t:S30} {A1:Option Addr} {c1:Nat} {A2:Option Addr} {c2:Nat} {v:Value} {f:Prd} (E:EntA w W2 bp mb s t A1 c1 A2 c2 v f) (hB:Below W2.heap.size W2 V)
include E hB
theorem EntA.lo:Below w.heap.size w V:=below_step E.low hB
theorem EntA.below:EntA w V bp mb s t A1 c1 A2 c2 v f:=⟨blk_below E.bt hB,E.bf.below hB,blk_below E.br hB,E.lo hB,Nat.le_trans E.sz hB.size,E.bld,E.tv,E.pf⟩
end
set_option maxHeartbeats 2000000 in
set_option maxRecDepth 100000 in
theorem apply_name (s:Sg) (n:Nat) (t:S30) (ef:t.f0=nName) (hl:t.f2.length=1) (w:World) (bp mb:Nat) (A1:Option Addr) (c1:Nat) (A2:Option Addr) (c2:Nat) (hb:Bld w bp mb s) (tv:TreeV w t A1 c1 A2 c2) (depth:Int) (v:Value) (f:Prd) (hf:PrdV w (fun _=>True) v f) :
  Calls Tryz.prog 133 #[.pointer (some ⟨bp,0,none⟩),.agg #[.string t.f0,.slice A1 t.f1.length c1,.slice A2 t.f2.length c2],.int .i64 depth,v] w (PostM w (applyP s (n+1) t depth f)):=by
 obtain ⟨g0,cap0,rfl,hE0,hF0⟩:=id hf
 have E:=entA_mk hb tv hf
 have HE0:=Aside0.mk hE0
 have HF0:=Aside0.mk hF0
 clear hE0 hF0
 obtain ⟨ad0,B01,d01,B02,d02,e0,y00,y01,y02,l01,i01,l02,i02⟩:=at_T30 E.tv.k 0 (by omega) (by omega)
 subst e0
 have q0:(t.f0.toList == ([78,97,109,101]:List UInt8))=true:=by rw[ef];decide +kernel
 have HR:applyP s (n+1) t depth f=(sortOfP s.cs (kidOf t 0).f0).bind fun sort=>f depth (conTm (kidOf t 0).f0 sort):=by
  rw[applyP];simp only[isF,show (t.f0.toList == bName)=true from q0];rfl
 generalize applyP s (n+1) t depth f=r at *
 replace HR:=Aside0.mk HR
 have x0:=blk_cell E.bt 0
 simp at x0
 replace E:=Aside0.mk E
 have HL:=Aside0.mk hl
 clear hb tv hf ef hl
 obtain ⟨SA0,sc0,ss,SA1,sc1,cs,SA2,sc2,ps⟩:=s
 have HD:=E.out.bld.below E.out.low
 replace y00:w.cell? _=some (.string (kidOf t 0).f0):=y00
 have z0:=pw_cell_below E.out.low y00
 have xc2:=blk_cell E.out.bt 2
 have dd0:=blk_cell HD.blk 0
 have dd1:=blk_cell HD.blk 1
 have dd2:=blk_cell HD.blk 2
 have CS:=Aside0.mk (sortOf_calls _ _ HD.sig (kidOf t 0).f0)
 have ha0:ad0.add ((0:Int).toNat*3)=ad0:=Addr.add_zero' ad0
 rw[ha0]at z0
 simp at dd0 dd1 dd2 xc2
 clear HD ha0
 clear y00 y01 y02 l01 i01 l02 i02
 have hk0:0<t.f2.length:=by have:=HL.out;omega
 generalize kidOf t 0=kid at *
 go_enter Tryz.func133,Tryz.ntmps133
 cases hs:sortOfP cs kid.f0 with
 |none =>
  simp only[hs]at CS
  go_wp2_with (go_at_call 159;refine CS.out.mono ?_;rintro e w2 ⟨rfl,hB⟩;have HB2:=Aside0.mk hB;clear hB)
  exact ⟨rfl,by rw[HR.out,hs];exact PostM.no (E.out.lo HB2.out)⟩
 |some sort =>
  simp only[hs]at CS
  have HR2:Aside0 (r=f depth (conTm kid.f0 sort)):=⟨by rw[HR.out,hs];rfl⟩
  clear hs
  have he' :=fun args W=>HE0.out args W
  have HP0:=Aside0.mk fun (V:World) (hV:Below w.heap.size w V)=>HF0.out.below hV |>.now depth (conTm kid.f0 sort)
  rw[HR2.out]
  clear HR HR2
  generalize f depth (conTm kid.f0 sort)=q at *
  unfold conTm tmV at HP0
  simp only at HP0
  cases q with
  |none =>
   go_wp2_with (first | (go_at_call 159;refine CS.out.mono ?_;rintro e w2 ⟨rfl,hB⟩;have HB2:=Aside0.mk hB;have fc:=(E.out.bf.below hB).cell;have C2:=Aside0.mk (HP0.out _ (E.out.lo hB));clear hB) | ((with_reducible refine C2.out.mono ?_);rintro e w3 ⟨hB,rfl⟩;have HB3:=Aside0.mk (below_step HB2.out hB);clear hB))
   exact ⟨rfl,PostM.no (E.out.lo HB3.out)⟩
  |some m =>
   go_wp2_with (first | (go_at_call 159;refine CS.out.mono ?_;rintro e w2 ⟨rfl,hB⟩;have HB2:=Aside0.mk hB;have fc:=(E.out.bf.below hB).cell;have C2:=Aside0.mk (HP0.out _ (E.out.lo hB));clear hB) | ((with_reducible refine C2.out.mono ?_);rintro e w3 ⟨hB,v3,rfl,hv⟩;obtain ⟨E5,e5,F5,f5,rfl,hrest⟩:=id hv;clear hrest;have HB3:=Aside0.mk (below_step HB2.out hB);have HV:=Aside0.mk (hv.mono (ok' :=fun k=>w.heap.size+3≤k) (fun k hk=>Nat.le_trans E.out.sz (Nat.le_trans HB2.out.size hk)));have RR:=Aside0.mk (blk_below E.out.br HB3.out);obtain ⟨zf0,zf1,zf2,zf3,zf4,zf5,zf6,zf7,zf8,zc0,zc1,zc2,zc3,zc4,zc5,zc6,zc7,zc8⟩:=z9 RR.out;clear hB hv;unfold mnW))
   refine bodyPost_ret (results_single rfl (.cell (w.heap.size+2) 70 _ (0,0) _ rfl (fin9 (W:=w3) RR.out (.int .i64 m.f0.f0) (.string m.f0.f1) (.slice E5 m.f0.f2.length e5) (.int .i64 m.f0.f3) (.int .i64 m.f0.f4) (.slice F5 m.f0.f5.length f5) (.int .i64 m.f1) (.int .i64 m.f2) (.bool m.f3)) Tryz.underlying70 rfl (by kernel_rfl) .nil)) rfl ?_
   exact PostM.stored (E.out.lo HB3.out) HV.out (by omega) (Nat.lt_succ_self _)
set_option maxHeartbeats 4000000 in
set_option maxRecDepth 100000 in
theorem apply_both (s:Sg) (n:Nat) (t:S30) (hn:nodes t≤n+1) (hres:resP t=true) (h133:ApplyN s n) (ef:t.f0=nBoth) (hl:t.f2.length=2) (hf0:formedP structL (kidOf t 0) cNP=true) (hf1:formedP structL (kidOf t 1) cNP=true) (w:World) (bp mb:Nat) (A1:Option Addr) (c1:Nat) (A2:Option Addr) (c2:Nat) (hb:Bld w bp mb s) (tv:TreeV w t A1 c1 A2 c2) (depth:Int) (v:Value) (f:Prd) (hf:PrdV w (fun _=>True) v f) :
  Calls Tryz.prog 133 #[.pointer (some ⟨bp,0,none⟩),.agg #[.string t.f0,.slice A1 t.f1.length c1,.slice A2 t.f2.length c2],.int .i64 depth,v] w (PostM w (applyP s (n+1) t depth f)):=by
 obtain ⟨g0,cap0,rfl,hE0,hF0⟩:=id hf
 have E:=entA_mk hb tv hf
 have HE0:=Aside0.mk hE0
 have HF0:=Aside0.mk hF0
 clear hE0 hF0
 obtain ⟨ad0,B01,d01,B02,d02,e0,y00,y01,y02,l01,i01,l02,i02⟩:=at_T30 E.tv.k 0 (by omega) (by omega)
 subst e0
 obtain ⟨ad1,B11,d11,B12,d12,e1,y10,y11,y12,l11,i11,l12,i12⟩:=at_T30 E.tv.k 1 (by omega) (by omega)
 obtain rfl:=Option.some.inj e1
 have q0:(t.f0.toList == ([78,97,109,101]:List UInt8))=false:=by rw[ef];decide +kernel
 have q1:(t.f0.toList == ([66,111,116,104]:List UInt8))=true:=by rw[ef];decide +kernel
 have HR:applyP s (n+1) t depth f=(applyP s n (kidOf t 0) depth f).bind fun a=>(applyP s n (kidOf t 1) depth f).bind fun b=>some (bothP a b):=by
  rw[applyP];simp only[isF,show (t.f0.toList == bName)=false from q0,show (t.f0.toList == bBoth)=true from q1];rfl
 generalize applyP s (n+1) t depth f=r at *
 replace HR:=Aside0.mk HR
 have x0:=blk_cell E.bt 0
 simp at x0
 replace E:=Aside0.mk E
 have HL:=Aside0.mk hl
 clear hb tv hf ef hl
 go_enter Tryz.func133,Tryz.ntmps133
 go_wp2_with fail
 clear x0
 replace E:=E.out
 have hl:=HL.out
 generalize hV2:(((w.alloc (.cells #[.string t.f0,.slice A1 t.f1.length c1,.slice (some ad0) t.f2.length c2] 30)).alloc (.cells #[.func (.func g0) #[] cap0] 76)).alloc (.cells #[.int .i64 0,.string ⟨#[]⟩,.slice none 0 0,.int .i64 0,.int .i64 0,.slice none 0 0,.int .i64 0,.int .i64 0,.bool false] 70))=W2 at *
 clear hV2
 refine wp_onNP (fun a' w' =>∃g,a' =frN 107 g∧g 8= .pointer (some ⟨w.heap.size+2,0,none⟩)∧Below w.heap.size w w' ∧∃m,r=some m∧MnAt w' (w.heap.size+2) (w.heap.size+3) m) (fun w' =>r=none∧Below w.heap.size w w') (to_frN 107 rfl fun f1 hf=> ?_) ?_ (fun a' w' hd h=>by obtain ⟨e,hB⟩:=h;refine ⟨hd,?_⟩;rw[e];exact PostM.no hB)
 ·have f0:f1 0=_:=hf 0
  have f2:f1 2=_:=hf 2
  have f5:f1 5=_:=hf 5
  have f7:f1 7=_:=hf 7
  have f8:f1 8=_:=hf 8
  have b2:∀{V},Below W2.drew.heap.size W2.drew V→Below W2.heap.size W2 V:=fun hB=>below_step (below_drew (Below.refl _ _)) hB
  have bs:∀{V},Below W2.drew.heap.size W2.drew V→w.heap.size+3≤V.heap.size:=fun hB=>Nat.le_trans E.sz (b2 hB).size
  refine region_kn 17 107 [.is (.pointer (some ⟨bp,0,none⟩)),.is (.pointer (some ⟨w.heap.size,2,none⟩)),.is (.slice (some ad0) t.f2.length c2),.is (.pointer (some (ad0.add ((0:Int).toNat*3)))),.is (.agg #[.string (kidOf t 0).f0,.slice B01 (kidOf t 0).f1.length d01,.slice B02 (kidOf t 0).f2.length d02]),.is (.int .i64 depth),.is (.func (.func g0) #[] cap0),.mn (w.heap.size+3) (applyP s n (kidOf t 0) depth f),.is (.pointer (some ⟨bp,0,none⟩)),.is (.pointer (some ⟨w.heap.size,2,none⟩)),.is (.slice (some ad0) t.f2.length c2),.is (.pointer (some (ad0.add ((1:Int).toNat*3)))),.is (.agg #[.string (kidOf t 1).f0,.slice B11 (kidOf t 1).f1.length d11,.slice B12 (kidOf t 1).f2.length d12]),.is (.int .i64 depth),.is (.func (.func g0) #[] cap0),.mn (w.heap.size+3) (applyP s n (kidOf t 1) depth f),.mn (w.heap.size+3) ((applyP s n (kidOf t 0) depth f).bind fun m1=>(applyP s n (kidOf t 1) depth f).bind fun m2=>some (bothP m1 m2))] [44,45,46,47,48,49,50,51,52,53,54,55,56,57,58,59,60,999] f1 W2 rfl (by kernel_rfl) (by kernel_rfl) (by kernel_rfl) ⟨
  fun q V J hB hq h hi=>op_mv hi rfl rfl f0 (h _ _ rfl (.refl _ _)),
  fun q V J hB hq h hi=>op_fa (c:=2) hi rfl rfl f5 (h _ _ rfl (.refl _ _)),
  fun q V J hB hq h hi=>op_ld28 hi rfl rfl (hq 1 rfl) (blk_cell (blk_below E.bt (b2 hB)) 2) (h _ _ rfl (.refl _ _)),
  fun q V J hB hq h hi=>op_ix hi rfl rfl (eq_true (by decide)) (eq_true (by omega)) (hq 2 rfl) (h _ _ rfl (.refl _ _)),
  fun q V J hB hq h hi=>op_ldT hi rfl rfl (hq 3 rfl) (pw_cell_below (E.lo (b2 hB)) y00) (pw_cell_below (E.lo (b2 hB)) y01) (pw_cell_below (E.lo (b2 hB)) y02) (h _ _ rfl (.refl _ _)),
  fun q V J hB hq h hi=>op_mv hi rfl rfl f2 (h _ _ rfl (.refl _ _)),
  fun q V J hB hq h hi=>op_ld76 hi rfl rfl f7 (E.bf.below (b2 hB)) (h _ _ rfl (.refl _ _)),
  fun q V J hB hq h hi=>op_app hi rfl rfl (hq 0 rfl) (hq 4 rfl) (hq 5 rfl) (hq 6 rfl) ⟨f,rfl,E.pf.below (E.lo (b2 hB))⟩ (h133 (kidOf t 0) (by have:=nodes_kid (t:=t) (i:=0) (by omega);omega) hf0 (res_kid hres (by omega)) V bp mb (E.bld.below (E.lo (b2 hB)))) (Kd.C_below i01 (E.lo (b2 hB))) l01 (Kd.C_below i02 (E.lo (b2 hB))) l02 rfl (fun e w' b=>⟨by rw[HR.out,e];rfl,below_step (E.lo (b2 hB)) b⟩) (bs hB) h,
  fun q V J hB hq h hi=>op_mv hi rfl rfl f0 (h _ _ rfl (.refl _ _)),
  fun q V J hB hq h hi=>op_fa (c:=2) hi rfl rfl f5 (h _ _ rfl (.refl _ _)),
  fun q V J hB hq h hi=>op_ld28 hi rfl rfl (hq 9 rfl) (blk_cell (blk_below E.bt (b2 hB)) 2) (h _ _ rfl (.refl _ _)),
  fun q V J hB hq h hi=>op_ix hi rfl rfl (eq_true (by decide)) (eq_true (by omega)) (hq 10 rfl) (h _ _ rfl (.refl _ _)),
  fun q V J hB hq h hi=>op_ldT hi rfl rfl (hq 11 rfl) (pw_cell_below (E.lo (b2 hB)) y10) (pw_cell_below (E.lo (b2 hB)) y11) (pw_cell_below (E.lo (b2 hB)) y12) (h _ _ rfl (.refl _ _)),
  fun q V J hB hq h hi=>op_mv hi rfl rfl f2 (h _ _ rfl (.refl _ _)),
  fun q V J hB hq h hi=>op_ld76 hi rfl rfl f7 (E.bf.below (b2 hB)) (h _ _ rfl (.refl _ _)),
  fun q V J hB hq h hi=>op_app hi rfl rfl (hq 8 rfl) (hq 12 rfl) (hq 13 rfl) (hq 14 rfl) ⟨f,rfl,E.pf.below (E.lo (b2 hB))⟩ (h133 (kidOf t 1) (by have:=nodes_kid (t:=t) (i:=1) (by omega);omega) hf1 (res_kid hres (by omega)) V bp mb (E.bld.below (E.lo (b2 hB)))) (Kd.C_below i11 (E.lo (b2 hB))) l11 (Kd.C_below i12 (E.lo (b2 hB))) l12 rfl (fun e w' b=>⟨by obtain ⟨m7,e7,_⟩:=hq 7 rfl;rw[HR.out,e7,e];rfl,below_step (E.lo (b2 hB)) b⟩) (bs hB) h,
  fun q V J hB hq h hi=>op_both hi rfl rfl rfl rfl (hq 7 rfl) (hq 15 rfl) (bs hB) h,trivial⟩ ?_
  intro o q V hi hB hx2
  injection hi with hi2
  subst hi2
  exact op_st70 rfl rfl rfl rfl f8 rfl (blk_below E.br (b2 hB)) (hx2 16 (by decide)) (Nat.lt_succ_self _) fun m w' e hm hb=>⟨_,rfl,f8,(E.lo (b2 hB)).trans (hb _ (by omega)),m,by rw[HR.out];exact e,hm⟩
 rintro a' V ⟨g,rfl,hp,hB,m,rfl,F2,g2,F5,g5,hb,hm⟩
 rw[frN107]
 have HB:=Aside0.mk hB
 have HC:=Aside0.mk hb
 have HM:=Aside0.mk hm
 clear hB hb hm
 go_wp2_with fail
 refine bodyPost_ret (results_single rfl (.cell (w.heap.size+2) 70 _ (0,0) _ hp HC.out Tryz.underlying70 rfl (by kernel_rfl) .nil)) rfl ?_
 exact PostM.yes HB.out (HM.out.mono (fun k hk=>by omega))
end
end Go.Proofs.YtcfjomnihhdpaaaGreatDoor.A
