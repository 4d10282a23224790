/-
  A part of the proof: Q9, R45, TryzShelf, R46, R47, R48.
-/
import Derived.Shelf.Strings.Builder1
import Derived.Shelf.Small.Utf8
import Derived.Shelf.Strings.BuilderF
import Derived.Shelf.Strings.BuilderK
import Derived.Shelf.Utf8.AppendRune
import Derived.Shelf.Strconv.Bsearch
import Derived.Shelf.Strconv.IsPrint
import Derived.Shelf.Strconv.IsPrint16
import Derived.Shelf.Strconv.IsPrint32
import Derived.Shelf.Strconv.Escaped
import Derived.Shelf.Strconv.Quoted
import Derived.Shelf.Strconv.Quote
import Derived.Shelf.Strconv.Itoa0
import Derived.Shelf.Strconv.Itoa1
import Derived.Shelf.LaysM
import Derived.Shelf.Strconv.Itoa2
import Derived.Shelf.Strconv.Itoa3
import Derived.Shelf.Unicode.DecodeSlow
import Derived.Shelf.Unicode.DecodeAny
import Derived.Test.YtcfjomnihhdpaaaGreatDoorProg
import Derived.Lib.AppendIntMem
import Derived.Test.YtcfjomnihhdpaaaGreatDoorBu8
namespace Go.Proofs.YtcfjomnihhdpaaaGreatDoor.A
open Go.RowKit Go.Proofs.YtcfjomnihhdpaaaGreatDoorW.PrintWords Go.Proofs.YtcfjomnihhdpaaaGreatDoorW.PrintLast Go.Proofs.YtcfjomnihhdpaaaGreatDoorW.PrintMore
set_option linter.unusedVariables false
set_option linter.unusedSimpArgs false
section
attribute [local go_sem] Oper.semAt_some
def Kb.str (r:Option ByteArray):Kb:=⟨fun v _ _=>∃x,r=some x∧v= .string x,fun _ _ _ _ _ h _=>h⟩
section
variable {ops:Array Oper} {R:Act→World→Prop} {RP:World→Prop} {i:Nat} {o:Oper} {J:Act→World→Prop} {a:Act} {w:World}
theorem op_sort {k1 k2:Tmp} {ts:Array TypeId} {bp:Nat} {x:ByteArray} {A1 A2:Option Addr} {n1 c1 n2 c2:Nat} {r:Option ByteArray} {pr:Nat→Prop} (hi:ops[i]? =some o) (hg:o.guard=none) (ho:o.op= .call {callee:= .value (.func 43),args:= #[.tmp k1,.tmp k2],argTypes:=ts}) (h1:a.tmps[k1]?.getD undef= .pointer (some ⟨bp,0,none⟩)) (h2:a.tmps[k2]?.getD undef= .agg #[.string x,.slice A1 n1 c1,.slice A2 n2 c2])
  (hc:Calls Tryz.prog 43 #[.pointer (some ⟨bp,0,none⟩),.agg #[.string x,.slice A1 n1 c1,.slice A2 n2 c2]] w (SortRet w r)) (had:a.defers=[]) (hp:r=none→∀w',Below w.heap.size w w' →RP w')
  (h:∀v w',(Kb.str r).In v w' pr→Below w.heap.size w w' →J (a.put o.dst v) w'):wpOp Tryz.prog ops (OnNP R RP) i J a w:=by
 refine op_callP hi (wanted_none hg) ?_ (hc.mono ?_)
 ·have he:=enters_of Tryz.func43 (by kernel_rfl) rfl #[.pointer (some ⟨bp,0,none⟩),.agg #[.string x,.slice A1 n1 c1,.slice A2 n2 c2]] w
  unfold execOp
  rw[ho]
  go_simp
 ·rintro e w' ⟨hb,hr⟩
  cases r with
  |none=>exact .inr ⟨_,hr,rfl,had,hp rfl w' hb⟩
  |some m=>exact .inl ⟨_,hr,h _ w' ⟨m,rfl,rfl⟩ hb⟩
theorem op_asgs {k:Tmp} {r:Option ByteArray} {v0:Value} {pr:Nat→Prop} (hi:ops[i]? =some o) (hg:o.guard=none) (ho:o.op= .assign (.tmp k)) (ha:a.tmps[k]?.getD undef=v0) (hv:(Kb.str r).In v0 w pr) (h:∀v w',(Kb.str r).In v w' pr→Below w.heap.size w w' →J (a.put o.dst v) w'):wpOp Tryz.prog ops (OnNP R RP) i J a w:=by
 exact op_asg hi hg ho ha (h _ _ hv (Below.refl _ _))
end
set_option maxHeartbeats 4000000 in
set_option maxRecDepth 100000 in
theorem apply_some (s:Sg) (n:Nat) (t:S30) (hn:nodes t≤n+1) (hres:resP t=true) (h44:NounC s n) (hps:∀p∈s.ps,1≤p.f1.length) (ef:t.f0=nSome) (hl:t.f2.length=1) (hf0:formedP structL (kidOf t 0) cCN=true) (w:World) (bp mb:Nat) (A1:Option Addr) (c1:Nat) (A2:Option Addr) (c2:Nat) (hb:Bld w bp mb s) (tv:TreeV w t A1 c1 A2 c2) (depth:Int) (v:Value) (f:Prd) (hf:PrdV w (fun _=>True) v f) :
  Calls Tryz.prog 133 #[.pointer (some ⟨bp,0,none⟩),.agg #[.string t.f0,.slice A1 t.f1.length c1,.slice A2 t.f2.length c2],.int .i64 depth,v] w (PostM w (applyP s (n+1) t depth f)):=by
 obtain ⟨g0,cap0,rfl,hE0,hF0⟩:=id hf
 have E:=entA_mk hb tv hf
 have HE0:=Aside0.mk hE0
 have HF0:=Aside0.mk hF0
 clear hE0 hF0
 obtain ⟨ad0,B01,d01,B02,d02,e0,y00,y01,y02,l01,i01,l02,i02⟩:=at_T30 E.tv.k 0 (by omega) (by omega)
 subst e0
 have q0:(t.f0.toList == ([78,97,109,101]:List UInt8))=false:=by rw[ef];decide +kernel
 have q1:(t.f0.toList == ([66,111,116,104]:List UInt8))=false:=by rw[ef];decide +kernel
 have q2:(t.f0.toList == ([83,111,109,101]:List UInt8))=true:=by rw[ef];decide +kernel
 have HR:applyP s (n+1) t depth f=(nounP s n (kidOf t 0)).bind fun c=>(sortP s.ps n (kidOf t 0)).bind fun sort=>quantP s.ss 9 sort depth (joinP c f):=by
  rw[applyP];simp only[isF,show (t.f0.toList == bName)=false from q0,show (t.f0.toList == bBoth)=false from q1,show (t.f0.toList == bSome)=true from q2];rfl
 generalize applyP s (n+1) t depth f=r at *
 replace HR:=Aside0.mk HR
 have x0:=blk_cell E.bt 0
 simp at x0
 replace E:=Aside0.mk E
 have HL:=Aside0.mk hl
 clear hb tv hf ef hl
 go_enter Tryz.func133,Tryz.ntmps133
 go_wp2_with fail
 clear x0
 replace E:=E.out
 have hl:=HL.out
 generalize hV2:(((w.alloc (.cells #[.string t.f0,.slice A1 t.f1.length c1,.slice (some ad0) t.f2.length c2] 30)).alloc (.cells #[.func (.func g0) #[] cap0] 76)).alloc (.cells #[.int .i64 0,.string ⟨#[]⟩,.slice none 0 0,.int .i64 0,.int .i64 0,.slice none 0 0,.int .i64 0,.int .i64 0,.bool false] 70))=W2 at *
 clear hV2
 refine wp_onNP (fun a' w' =>∃g,a' =frN 107 g∧g 0= .pointer (some ⟨bp,0,none⟩)∧g 2= .int .i64 depth∧g 5= .pointer (some ⟨w.heap.size,0,none⟩)∧g 7= .pointer (some ⟨w.heap.size+1,0,none⟩)∧g 8= .pointer (some ⟨w.heap.size+2,0,none⟩)∧Got w w w' (g 12) (nounP s n (kidOf t 0))∧(∃x,sortP s.ps n (kidOf t 0)=some x∧g 13= .string x)∧Below W2.heap.size W2 w') (fun w' =>r=none∧Below w.heap.size w w') (to_frN 107 rfl fun f1 hf=> ?_) ?_ (fun a' w' hd h=>by obtain ⟨e,hB⟩:=h;refine ⟨hd,?_⟩;rw[e];exact PostM.no hB)
 ·have f0:f1 0=_:=hf 0
  have f2:f1 2=_:=hf 2
  have f5:f1 5=_:=hf 5
  have f7:f1 7=_:=hf 7
  have f8:f1 8=_:=hf 8
  have b2:∀{V},Below W2.drew.heap.size W2.drew V→Below W2.heap.size W2 V:=fun hB=>below_step (below_drew (Below.refl _ _)) hB
  refine region_box 76 #[.nilFunc] (fun v=> #[v]) 107 [.is (.pointer (some ⟨bp,0,none⟩)),.is (.pointer (some ⟨w.heap.size,2,none⟩)),.is (.slice (some ad0) t.f2.length c2),.is (.pointer (some (ad0.add ((0:Int).toNat*3)))),.is (.agg #[.string (kidOf t 0).f0,.slice B01 (kidOf t 0).f1.length d01,.slice B02 (kidOf t 0).f2.length d02]),.fn (fun k=>k<w.heap.size∨w.heap.size≤k) (nounP s n (kidOf t 0)),.is (.pointer (some ⟨bp,0,none⟩)),.is (.pointer (some ⟨w.heap.size,2,none⟩)),.is (.slice (some ad0) t.f2.length c2),.is (.pointer (some (ad0.add ((0:Int).toNat*3)))),.is (.agg #[.string (kidOf t 0).f0,.slice B01 (kidOf t 0).f1.length d01,.slice B02 (kidOf t 0).f2.length d02]),.str (sortP s.ps n (kidOf t 0)),.top,.top,.str (sortP s.ps n (kidOf t 0))] [⟨12,13,5⟩] [61,62,63,64,65,66,67,68,69,70,71,72,12,913,13] f1 W2 (by kernel_rfl) (by kernel_rfl) (by kernel_rfl) ?_ ?_ ?_
  ·intro j hj v w pr
   have hj2:j=12∨j=13:=by
    refine Classical.byContradiction fun hn=>hj ?_
    intro b hb
    simp at hb
    rcases hb with rfl
    simp
    omega
   rcases hj2 with rfl | rfl<;>trivial
  ·exact ⟨fun q V J pr hB hp hq h hi=>op_mv hi rfl rfl f0 (h _ _ rfl (.refl _ _)),
   fun q V J pr hB hp hq h hi=>op_fa (c:=2) hi rfl rfl f5 (h _ _ rfl (.refl _ _)),
   fun q V J pr hB hp hq h hi=>op_ld28 hi rfl rfl (hq 1 rfl) (blk_cell (blk_below E.bt (b2 hB)) 2) (h _ _ rfl (.refl _ _)),
   fun q V J pr hB hp hq h hi=>op_ix hi rfl rfl (eq_true (by decide)) (eq_true (by omega)) (hq 2 rfl) (h _ _ rfl (.refl _ _)),
   fun q V J pr hB hp hq h hi=>op_ldT hi rfl rfl (hq 3 rfl) (pw_cell_below (E.lo (b2 hB)) y00) (pw_cell_below (E.lo (b2 hB)) y01) (pw_cell_below (E.lo (b2 hB)) y02) (h _ _ rfl (.refl _ _)),
   fun q V J pr hB hp hq h hi=>op_prdT (enters_of Tryz.func44 (by kernel_rfl) rfl) hi rfl rfl (hq 0 rfl) (hq 4 rfl) (h44 (kidOf t 0) (by have:=nodes_kid (t:=t) (i:=0) (by omega);omega) hf0 (res_kid hres (by omega)) w V bp mb B01 d01 B02 d02 (E.lo (b2 hB)) E.bld ⟨l01,i01,l02,i02⟩) rfl (fun e w' b=>⟨by rw[HR.out,e];rfl,below_step (E.lo (b2 hB)) b⟩) (fun k hk=>⟨Nat.le_trans E.low.size (hp k hk).1,(hp k hk).2⟩) (E.lo (b2 hB)).size h,
   fun q V J pr hB hp hq h hi=>op_mv hi rfl rfl f0 (h _ _ rfl (.refl _ _)),
   fun q V J pr hB hp hq h hi=>op_fa (c:=2) hi rfl rfl f5 (h _ _ rfl (.refl _ _)),
   fun q V J pr hB hp hq h hi=>op_ld28 hi rfl rfl (hq 7 rfl) (blk_cell (blk_below E.bt (b2 hB)) 2) (h _ _ rfl (.refl _ _)),
   fun q V J pr hB hp hq h hi=>op_ix hi rfl rfl (eq_true (by decide)) (eq_true (by omega)) (hq 8 rfl) (h _ _ rfl (.refl _ _)),
   fun q V J pr hB hp hq h hi=>op_ldT hi rfl rfl (hq 9 rfl) (pw_cell_below (E.lo (b2 hB)) y00) (pw_cell_below (E.lo (b2 hB)) y01) (pw_cell_below (E.lo (b2 hB)) y02) (h _ _ rfl (.refl _ _)),
   fun q V J pr hB hp hq h hi=>op_sort hi rfl rfl (hq 6 rfl) (hq 10 rfl) (sort_calls n (kidOf t 0) (by have:=nodes_kid (t:=t) (i:=0) (by omega);omega) hf0 V bp mb s B01 d01 B02 d02 (E.bld.below (E.lo (b2 hB))) (TreeV.below ⟨l01,i01,l02,i02⟩ (E.lo (b2 hB))) hps) rfl (fun e w' b=>⟨by obtain ⟨f5,e5,_⟩:=hq 5 rfl;rw[HR.out,e5,e];rfl,below_step (E.lo (b2 hB)) b⟩) h,
   fun q V J h hi=>op_new76 hi rfl rfl h,
   fun q V J g pr hx hc hz h hi=>op_st76 hi rfl rfl rfl hx rfl (by obtain ⟨f,_,g,cap,e,_⟩:=hc;exact ⟨g,cap,e⟩) hz fun w' h1 h2 h3=>h undef w' h1 h2 h3,
   fun q V J pr hB hp hq h hi=>op_asgs hi rfl rfl rfl (hq 11 rfl) h,trivial⟩
  intro q V hB hx hI
  exact ⟨_,rfl,f0,f2,f5,f7,f8,got_mk (x:=q) (N:=W2.drew.heap.size) hI (b:=⟨12,13,5⟩) (by simp) (Nat.le_trans E.low.size (Nat.le_refl _)) (hx 5 (by decide) (by simp)),hx 14 (by decide) (by simp),b2 hB⟩
 rintro a' V0 ⟨g,rfl,p0,p2,p5,p7,p8,hg,⟨x,S,p13⟩,hB⟩
 rw[frN107]
 replace E:=E.below hB
 obtain ⟨b12,v12,k12,p12,o12,X,P,F⟩:=hg
 have t0:=(blk_cell E.bt 0).trans rfl
 simp at t0
 have HR2:r=quantP s.ss 9 x depth (joinP k12 f):=by rw[HR.out,F,S];rfl
 have C160:=Aside0.mk (quantify_calls V0 bp mb s (E.bld.below E.low) 9 x depth (.func (.func 161) #[] #[.pointer (some ⟨b12,0,none⟩),.pointer (some ⟨w.heap.size+1,0,none⟩)]) (joinP k12 f) (clo161 (bp:=0) (mb:=0) (Bb:=0) (Bt:=0) (s:=s) (t:=t) (A1:=none) (c1:=0) (A2:=none) (c2:=0) (fr_box X trivial) (P.mono (fun _ _ _=>trivial)) (fr_box E.bf trivial) (E.pf.below E.low)))
 rw[←HR2]at C160
 replace E:=Aside0.mk E
 clear HR F S X P y00 y01 y02 l01 i01 l02 i02 hl hB HL hf0 h44 hps hres hn
 clear HE0 HF0
 clear HR2
 cases r with
 |none =>
  go_wp2_with (go_at_call 160;refine C160.out.mono ?_;rintro e w5 ⟨hB,rfl⟩;have HB5:=Aside0.mk hB;clear hB)
  exact ⟨rfl,PostM.no (E.out.lo HB5.out)⟩
 |some m =>
  go_wp2_with (go_at_call 160;refine C160.out.mono ?_;rintro e w5 ⟨hB,v5,rfl,hv⟩;obtain ⟨E5,e5,F5,f5,rfl,hrest⟩:=id hv;clear hrest;have HB5:=Aside0.mk hB;have HV5:=Aside0.mk (hv.mono (ok' :=fun k=>w.heap.size+3≤k) (fun k hk=>Nat.le_trans E.out.sz hk));have RR:=Aside0.mk (blk_below E.out.br (HB5.out));obtain ⟨zf0,zf1,zf2,zf3,zf4,zf5,zf6,zf7,zf8,zc0,zc1,zc2,zc3,zc4,zc5,zc6,zc7,zc8⟩:=z9 RR.out;clear hB hv;unfold mnW)
  refine bodyPost_ret (results_single rfl (.cell (w.heap.size+2) 70 _ (0,0) _ rfl (fin9 (W:=w5) RR.out (.int .i64 m.f0.f0) (.string m.f0.f1) (.slice E5 m.f0.f2.length e5) (.int .i64 m.f0.f3) (.int .i64 m.f0.f4) (.slice F5 m.f0.f5.length f5) (.int .i64 m.f1) (.int .i64 m.f2) (.bool m.f3)) Tryz.underlying70 rfl (by kernel_rfl) .nil)) rfl ?_
  exact PostM.stored (E.out.lo HB5.out) HV5.out (by omega) (Nat.lt_succ_self _)
set_option maxHeartbeats 4000000 in
set_option maxRecDepth 100000 in
theorem apply_no (s:Sg) (n:Nat) (t:S30) (hn:nodes t≤n+1) (hres:resP t=true) (h44:NounC s n) (hps:∀p∈s.ps,1≤p.f1.length) (ef:t.f0=nNo) (hl:t.f2.length=1) (hf0:formedP structL (kidOf t 0) cCN=true) (w:World) (bp mb:Nat) (A1:Option Addr) (c1:Nat) (A2:Option Addr) (c2:Nat) (hb:Bld w bp mb s) (tv:TreeV w t A1 c1 A2 c2) (depth:Int) (v:Value) (f:Prd) (hf:PrdV w (fun _=>True) v f) :
  Calls Tryz.prog 133 #[.pointer (some ⟨bp,0,none⟩),.agg #[.string t.f0,.slice A1 t.f1.length c1,.slice A2 t.f2.length c2],.int .i64 depth,v] w (PostM w (applyP s (n+1) t depth f)):=by
 obtain ⟨g0,cap0,rfl,hE0,hF0⟩:=id hf
 have E:=entA_mk hb tv hf
 have HE0:=Aside0.mk hE0
 have HF0:=Aside0.mk hF0
 clear hE0 hF0
 obtain ⟨ad0,B01,d01,B02,d02,e0,y00,y01,y02,l01,i01,l02,i02⟩:=at_T30 E.tv.k 0 (by omega) (by omega)
 subst e0
 have q0:(t.f0.toList == ([78,97,109,101]:List UInt8))=false:=by rw[ef];decide +kernel
 have q1:(t.f0.toList == ([66,111,116,104]:List UInt8))=false:=by rw[ef];decide +kernel
 have q2:(t.f0.toList == ([83,111,109,101]:List UInt8))=false:=by rw[ef];decide +kernel
 have q3:(t.f0.toList == ([78,111]:List UInt8))=true:=by rw[ef];decide +kernel
 have HR:applyP s (n+1) t depth f=(nounP s n (kidOf t 0)).bind fun c=>(sortP s.ps n (kidOf t 0)).bind fun sort=>quantP s.ss 8 sort depth (noneP c f):=by
  rw[applyP];simp only[isF,show (t.f0.toList == bName)=false from q0,show (t.f0.toList == bBoth)=false from q1,show (t.f0.toList == bSome)=false from q2,show (t.f0.toList == bNo)=true from q3];rfl
 generalize applyP s (n+1) t depth f=r at *
 replace HR:=Aside0.mk HR
 have x0:=blk_cell E.bt 0
 simp at x0
 replace E:=Aside0.mk E
 have HL:=Aside0.mk hl
 clear hb tv hf ef hl
 go_enter Tryz.func133,Tryz.ntmps133
 go_wp2_with fail
 clear x0
 replace E:=E.out
 have hl:=HL.out
 generalize hV2:(((w.alloc (.cells #[.string t.f0,.slice A1 t.f1.length c1,.slice (some ad0) t.f2.length c2] 30)).alloc (.cells #[.func (.func g0) #[] cap0] 76)).alloc (.cells #[.int .i64 0,.string ⟨#[]⟩,.slice none 0 0,.int .i64 0,.int .i64 0,.slice none 0 0,.int .i64 0,.int .i64 0,.bool false] 70))=W2 at *
 clear hV2
 refine wp_onNP (fun a' w' =>∃g,a' =frN 107 g∧g 0= .pointer (some ⟨bp,0,none⟩)∧g 2= .int .i64 depth∧g 5= .pointer (some ⟨w.heap.size,0,none⟩)∧g 7= .pointer (some ⟨w.heap.size+1,0,none⟩)∧g 8= .pointer (some ⟨w.heap.size+2,0,none⟩)∧Got w w w' (g 12) (nounP s n (kidOf t 0))∧(∃x,sortP s.ps n (kidOf t 0)=some x∧g 13= .string x)∧Below W2.heap.size W2 w') (fun w' =>r=none∧Below w.heap.size w w') (to_frN 107 rfl fun f1 hf=> ?_) ?_ (fun a' w' hd h=>by obtain ⟨e,hB⟩:=h;refine ⟨hd,?_⟩;rw[e];exact PostM.no hB)
 ·have f0:f1 0=_:=hf 0
  have f2:f1 2=_:=hf 2
  have f5:f1 5=_:=hf 5
  have f7:f1 7=_:=hf 7
  have f8:f1 8=_:=hf 8
  have b2:∀{V},Below W2.drew.heap.size W2.drew V→Below W2.heap.size W2 V:=fun hB=>below_step (below_drew (Below.refl _ _)) hB
  refine region_box 76 #[.nilFunc] (fun v=> #[v]) 107 [.is (.pointer (some ⟨bp,0,none⟩)),.is (.pointer (some ⟨w.heap.size,2,none⟩)),.is (.slice (some ad0) t.f2.length c2),.is (.pointer (some (ad0.add ((0:Int).toNat*3)))),.is (.agg #[.string (kidOf t 0).f0,.slice B01 (kidOf t 0).f1.length d01,.slice B02 (kidOf t 0).f2.length d02]),.fn (fun k=>k<w.heap.size∨w.heap.size≤k) (nounP s n (kidOf t 0)),.is (.pointer (some ⟨bp,0,none⟩)),.is (.pointer (some ⟨w.heap.size,2,none⟩)),.is (.slice (some ad0) t.f2.length c2),.is (.pointer (some (ad0.add ((0:Int).toNat*3)))),.is (.agg #[.string (kidOf t 0).f0,.slice B01 (kidOf t 0).f1.length d01,.slice B02 (kidOf t 0).f2.length d02]),.str (sortP s.ps n (kidOf t 0)),.top,.top,.str (sortP s.ps n (kidOf t 0))] [⟨12,13,5⟩] [61,62,63,64,65,66,67,68,69,70,71,72,12,913,13] f1 W2 (by kernel_rfl) (by kernel_rfl) (by kernel_rfl) ?_ ?_ ?_
  ·intro j hj v w pr
   have hj2:j=12∨j=13:=by
    refine Classical.byContradiction fun hn=>hj ?_
    intro b hb
    simp at hb
    rcases hb with rfl
    simp
    omega
   rcases hj2 with rfl | rfl<;>trivial
  ·exact ⟨fun q V J pr hB hp hq h hi=>op_mv hi rfl rfl f0 (h _ _ rfl (.refl _ _)),
   fun q V J pr hB hp hq h hi=>op_fa (c:=2) hi rfl rfl f5 (h _ _ rfl (.refl _ _)),
   fun q V J pr hB hp hq h hi=>op_ld28 hi rfl rfl (hq 1 rfl) (blk_cell (blk_below E.bt (b2 hB)) 2) (h _ _ rfl (.refl _ _)),
   fun q V J pr hB hp hq h hi=>op_ix hi rfl rfl (eq_true (by decide)) (eq_true (by omega)) (hq 2 rfl) (h _ _ rfl (.refl _ _)),
   fun q V J pr hB hp hq h hi=>op_ldT hi rfl rfl (hq 3 rfl) (pw_cell_below (E.lo (b2 hB)) y00) (pw_cell_below (E.lo (b2 hB)) y01) (pw_cell_below (E.lo (b2 hB)) y02) (h _ _ rfl (.refl _ _)),
   fun q V J pr hB hp hq h hi=>op_prdT (enters_of Tryz.func44 (by kernel_rfl) rfl) hi rfl rfl (hq 0 rfl) (hq 4 rfl) (h44 (kidOf t 0) (by have:=nodes_kid (t:=t) (i:=0) (by omega);omega) hf0 (res_kid hres (by omega)) w V bp mb B01 d01 B02 d02 (E.lo (b2 hB)) E.bld ⟨l01,i01,l02,i02⟩) rfl (fun e w' b=>⟨by rw[HR.out,e];rfl,below_step (E.lo (b2 hB)) b⟩) (fun k hk=>⟨Nat.le_trans E.low.size (hp k hk).1,(hp k hk).2⟩) (E.lo (b2 hB)).size h,
   fun q V J pr hB hp hq h hi=>op_mv hi rfl rfl f0 (h _ _ rfl (.refl _ _)),
   fun q V J pr hB hp hq h hi=>op_fa (c:=2) hi rfl rfl f5 (h _ _ rfl (.refl _ _)),
   fun q V J pr hB hp hq h hi=>op_ld28 hi rfl rfl (hq 7 rfl) (blk_cell (blk_below E.bt (b2 hB)) 2) (h _ _ rfl (.refl _ _)),
   fun q V J pr hB hp hq h hi=>op_ix hi rfl rfl (eq_true (by decide)) (eq_true (by omega)) (hq 8 rfl) (h _ _ rfl (.refl _ _)),
   fun q V J pr hB hp hq h hi=>op_ldT hi rfl rfl (hq 9 rfl) (pw_cell_below (E.lo (b2 hB)) y00) (pw_cell_below (E.lo (b2 hB)) y01) (pw_cell_below (E.lo (b2 hB)) y02) (h _ _ rfl (.refl _ _)),
   fun q V J pr hB hp hq h hi=>op_sort hi rfl rfl (hq 6 rfl) (hq 10 rfl) (sort_calls n (kidOf t 0) (by have:=nodes_kid (t:=t) (i:=0) (by omega);omega) hf0 V bp mb s B01 d01 B02 d02 (E.bld.below (E.lo (b2 hB))) (TreeV.below ⟨l01,i01,l02,i02⟩ (E.lo (b2 hB))) hps) rfl (fun e w' b=>⟨by obtain ⟨f5,e5,_⟩:=hq 5 rfl;rw[HR.out,e5,e];rfl,below_step (E.lo (b2 hB)) b⟩) h,
   fun q V J h hi=>op_new76 hi rfl rfl h,
   fun q V J g pr hx hc hz h hi=>op_st76 hi rfl rfl rfl hx rfl (by obtain ⟨f,_,g,cap,e,_⟩:=hc;exact ⟨g,cap,e⟩) hz fun w' h1 h2 h3=>h undef w' h1 h2 h3,
   fun q V J pr hB hp hq h hi=>op_asgs hi rfl rfl rfl (hq 11 rfl) h,trivial⟩
  intro q V hB hx hI
  exact ⟨_,rfl,f0,f2,f5,f7,f8,got_mk (x:=q) (N:=W2.drew.heap.size) hI (b:=⟨12,13,5⟩) (by simp) (Nat.le_trans E.low.size (Nat.le_refl _)) (hx 5 (by decide) (by simp)),hx 14 (by decide) (by simp),b2 hB⟩
 rintro a' V0 ⟨g,rfl,p0,p2,p5,p7,p8,hg,⟨x,S,p13⟩,hB⟩
 rw[frN107]
 replace E:=E.below hB
 obtain ⟨b12,v12,k12,p12,o12,X,P,F⟩:=hg
 have t0:=(blk_cell E.bt 0).trans rfl
 simp at t0
 have HR2:r=quantP s.ss 8 x depth (noneP k12 f):=by rw[HR.out,F,S];rfl
 have C160:=Aside0.mk (quantify_calls V0 bp mb s (E.bld.below E.low) 8 x depth (.func (.func 162) #[] #[.pointer (some ⟨b12,0,none⟩),.pointer (some ⟨w.heap.size+1,0,none⟩)]) (noneP k12 f) (clo162 (bp:=0) (mb:=0) (Bb:=0) (Bt:=0) (s:=s) (t:=t) (A1:=none) (c1:=0) (A2:=none) (c2:=0) (fr_box X trivial) (P.mono (fun _ _ _=>trivial)) (fr_box E.bf trivial) (E.pf.below E.low)))
 rw[←HR2]at C160
 replace E:=Aside0.mk E
 clear HR F S X P y00 y01 y02 l01 i01 l02 i02 hl hB HL hf0 h44 hps hres hn
 clear HE0 HF0
 clear HR2
 cases r with
 |none =>
  go_wp2_with (go_at_call 160;refine C160.out.mono ?_;rintro e w5 ⟨hB,rfl⟩;have HB5:=Aside0.mk hB;clear hB)
  exact ⟨rfl,PostM.no (E.out.lo HB5.out)⟩
 |some m =>
  go_wp2_with (go_at_call 160;refine C160.out.mono ?_;rintro e w5 ⟨hB,v5,rfl,hv⟩;obtain ⟨E5,e5,F5,f5,rfl,hrest⟩:=id hv;clear hrest;have HB5:=Aside0.mk hB;have HV5:=Aside0.mk (hv.mono (ok' :=fun k=>w.heap.size+3≤k) (fun k hk=>Nat.le_trans E.out.sz hk));have RR:=Aside0.mk (blk_below E.out.br (HB5.out));obtain ⟨zf0,zf1,zf2,zf3,zf4,zf5,zf6,zf7,zf8,zc0,zc1,zc2,zc3,zc4,zc5,zc6,zc7,zc8⟩:=z9 RR.out;clear hB hv;unfold mnW)
  refine bodyPost_ret (results_single rfl (.cell (w.heap.size+2) 70 _ (0,0) _ rfl (fin9 (W:=w5) RR.out (.int .i64 m.f0.f0) (.string m.f0.f1) (.slice E5 m.f0.f2.length e5) (.int .i64 m.f0.f3) (.int .i64 m.f0.f4) (.slice F5 m.f0.f5.length f5) (.int .i64 m.f1) (.int .i64 m.f2) (.bool m.f3)) Tryz.underlying70 rfl (by kernel_rfl) .nil)) rfl ?_
  exact PostM.stored (E.out.lo HB5.out) HV5.out (by omega) (Nat.lt_succ_self _)
set_option maxHeartbeats 4000000 in
set_option maxRecDepth 100000 in
theorem apply_every (s:Sg) (n:Nat) (t:S30) (hn:nodes t≤n+1) (hres:resP t=true) (h44:NounC s n) (hps:∀p∈s.ps,1≤p.f1.length) (ef:t.f0=nEvery) (hl:t.f2.length=1) (hf0:formedP structL (kidOf t 0) cCN=true) (w:World) (bp mb:Nat) (A1:Option Addr) (c1:Nat) (A2:Option Addr) (c2:Nat) (hb:Bld w bp mb s) (tv:TreeV w t A1 c1 A2 c2) (depth:Int) (v:Value) (f:Prd) (hf:PrdV w (fun _=>True) v f) :
  Calls Tryz.prog 133 #[.pointer (some ⟨bp,0,none⟩),.agg #[.string t.f0,.slice A1 t.f1.length c1,.slice A2 t.f2.length c2],.int .i64 depth,v] w (PostM w (applyP s (n+1) t depth f)):=by
 obtain ⟨g0,cap0,rfl,hE0,hF0⟩:=id hf
 have E:=entA_mk hb tv hf
 have HE0:=Aside0.mk hE0
 have HF0:=Aside0.mk hF0
 clear hE0 hF0
 obtain ⟨ad0,B01,d01,B02,d02,e0,y00,y01,y02,l01,i01,l02,i02⟩:=at_T30 E.tv.k 0 (by omega) (by omega)
 subst e0
 have q0:(t.f0.toList == ([78,97,109,101]:List UInt8))=false:=by rw[ef];decide +kernel
 have q1:(t.f0.toList == ([66,111,116,104]:List UInt8))=false:=by rw[ef];decide +kernel
 have q2:(t.f0.toList == ([83,111,109,101]:List UInt8))=false:=by rw[ef];decide +kernel
 have q3:(t.f0.toList == ([78,111]:List UInt8))=false:=by rw[ef];decide +kernel
 have q4:(t.f0.toList == ([69,118,101,114,121,69,120,99,101,112,116]:List UInt8))=false:=by rw[ef];decide +kernel
 have HR:applyP s (n+1) t depth f=(nounP s n (kidOf t 0)).bind fun c=>(sortP s.ps n (kidOf t 0)).bind fun sort=>quantP s.ss 8 sort depth (implP c f):=by
  rw[applyP];simp only[isF,show (t.f0.toList == bName)=false from q0,show (t.f0.toList == bBoth)=false from q1,show (t.f0.toList == bSome)=false from q2,show (t.f0.toList == bNo)=false from q3,show (t.f0.toList == bExc)=false from q4];rfl
 generalize applyP s (n+1) t depth f=r at *
 replace HR:=Aside0.mk HR
 have x0:=blk_cell E.bt 0
 simp at x0
 replace E:=Aside0.mk E
 have HL:=Aside0.mk hl
 clear hb tv hf ef hl
 go_enter Tryz.func133,Tryz.ntmps133
 go_wp2_with fail
 clear x0
 replace E:=E.out
 have hl:=HL.out
 generalize hV2:(((w.alloc (.cells #[.string t.f0,.slice A1 t.f1.length c1,.slice (some ad0) t.f2.length c2] 30)).alloc (.cells #[.func (.func g0) #[] cap0] 76)).alloc (.cells #[.int .i64 0,.string ⟨#[]⟩,.slice none 0 0,.int .i64 0,.int .i64 0,.slice none 0 0,.int .i64 0,.int .i64 0,.bool false] 70))=W2 at *
 clear hV2
 refine wp_onNP (fun a' w' =>∃g,a' =frN 107 g∧g 0= .pointer (some ⟨bp,0,none⟩)∧g 2= .int .i64 depth∧g 5= .pointer (some ⟨w.heap.size,0,none⟩)∧g 7= .pointer (some ⟨w.heap.size+1,0,none⟩)∧g 8= .pointer (some ⟨w.heap.size+2,0,none⟩)∧Got w w w' (g 12) (nounP s n (kidOf t 0))∧(∃x,sortP s.ps n (kidOf t 0)=some x∧g 13= .string x)∧Below W2.heap.size W2 w') (fun w' =>r=none∧Below w.heap.size w w') (to_frN 107 rfl fun f1 hf=> ?_) ?_ (fun a' w' hd h=>by obtain ⟨e,hB⟩:=h;refine ⟨hd,?_⟩;rw[e];exact PostM.no hB)
 ·have f0:f1 0=_:=hf 0
  have f2:f1 2=_:=hf 2
  have f5:f1 5=_:=hf 5
  have f7:f1 7=_:=hf 7
  have f8:f1 8=_:=hf 8
  have b2:∀{V},Below W2.drew.heap.size W2.drew V→Below W2.heap.size W2 V:=fun hB=>below_step (below_drew (Below.refl _ _)) hB
  refine region_box 76 #[.nilFunc] (fun v=> #[v]) 107 [.is (.pointer (some ⟨bp,0,none⟩)),.is (.pointer (some ⟨w.heap.size,2,none⟩)),.is (.slice (some ad0) t.f2.length c2),.is (.pointer (some (ad0.add ((0:Int).toNat*3)))),.is (.agg #[.string (kidOf t 0).f0,.slice B01 (kidOf t 0).f1.length d01,.slice B02 (kidOf t 0).f2.length d02]),.fn (fun k=>k<w.heap.size∨w.heap.size≤k) (nounP s n (kidOf t 0)),.is (.pointer (some ⟨bp,0,none⟩)),.is (.pointer (some ⟨w.heap.size,2,none⟩)),.is (.slice (some ad0) t.f2.length c2),.is (.pointer (some (ad0.add ((0:Int).toNat*3)))),.is (.agg #[.string (kidOf t 0).f0,.slice B01 (kidOf t 0).f1.length d01,.slice B02 (kidOf t 0).f2.length d02]),.str (sortP s.ps n (kidOf t 0)),.top,.top,.str (sortP s.ps n (kidOf t 0))] [⟨12,13,5⟩] [61,62,63,64,65,66,67,68,69,70,71,72,12,913,13] f1 W2 (by kernel_rfl) (by kernel_rfl) (by kernel_rfl) ?_ ?_ ?_
  ·intro j hj v w pr
   have hj2:j=12∨j=13:=by
    refine Classical.byContradiction fun hn=>hj ?_
    intro b hb
    simp at hb
    rcases hb with rfl
    simp
    omega
   rcases hj2 with rfl | rfl<;>trivial
  ·exact ⟨fun q V J pr hB hp hq h hi=>op_mv hi rfl rfl f0 (h _ _ rfl (.refl _ _)),
   fun q V J pr hB hp hq h hi=>op_fa (c:=2) hi rfl rfl f5 (h _ _ rfl (.refl _ _)),
   fun q V J pr hB hp hq h hi=>op_ld28 hi rfl rfl (hq 1 rfl) (blk_cell (blk_below E.bt (b2 hB)) 2) (h _ _ rfl (.refl _ _)),
   fun q V J pr hB hp hq h hi=>op_ix hi rfl rfl (eq_true (by decide)) (eq_true (by omega)) (hq 2 rfl) (h _ _ rfl (.refl _ _)),
   fun q V J pr hB hp hq h hi=>op_ldT hi rfl rfl (hq 3 rfl) (pw_cell_below (E.lo (b2 hB)) y00) (pw_cell_below (E.lo (b2 hB)) y01) (pw_cell_below (E.lo (b2 hB)) y02) (h _ _ rfl (.refl _ _)),
   fun q V J pr hB hp hq h hi=>op_prdT (enters_of Tryz.func44 (by kernel_rfl) rfl) hi rfl rfl (hq 0 rfl) (hq 4 rfl) (h44 (kidOf t 0) (by have:=nodes_kid (t:=t) (i:=0) (by omega);omega) hf0 (res_kid hres (by omega)) w V bp mb B01 d01 B02 d02 (E.lo (b2 hB)) E.bld ⟨l01,i01,l02,i02⟩) rfl (fun e w' b=>⟨by rw[HR.out,e];rfl,below_step (E.lo (b2 hB)) b⟩) (fun k hk=>⟨Nat.le_trans E.low.size (hp k hk).1,(hp k hk).2⟩) (E.lo (b2 hB)).size h,
   fun q V J pr hB hp hq h hi=>op_mv hi rfl rfl f0 (h _ _ rfl (.refl _ _)),
   fun q V J pr hB hp hq h hi=>op_fa (c:=2) hi rfl rfl f5 (h _ _ rfl (.refl _ _)),
   fun q V J pr hB hp hq h hi=>op_ld28 hi rfl rfl (hq 7 rfl) (blk_cell (blk_below E.bt (b2 hB)) 2) (h _ _ rfl (.refl _ _)),
   fun q V J pr hB hp hq h hi=>op_ix hi rfl rfl (eq_true (by decide)) (eq_true (by omega)) (hq 8 rfl) (h _ _ rfl (.refl _ _)),
   fun q V J pr hB hp hq h hi=>op_ldT hi rfl rfl (hq 9 rfl) (pw_cell_below (E.lo (b2 hB)) y00) (pw_cell_below (E.lo (b2 hB)) y01) (pw_cell_below (E.lo (b2 hB)) y02) (h _ _ rfl (.refl _ _)),
   fun q V J pr hB hp hq h hi=>op_sort hi rfl rfl (hq 6 rfl) (hq 10 rfl) (sort_calls n (kidOf t 0) (by have:=nodes_kid (t:=t) (i:=0) (by omega);omega) hf0 V bp mb s B01 d01 B02 d02 (E.bld.below (E.lo (b2 hB))) (TreeV.below ⟨l01,i01,l02,i02⟩ (E.lo (b2 hB))) hps) rfl (fun e w' b=>⟨by obtain ⟨f5,e5,_⟩:=hq 5 rfl;rw[HR.out,e5,e];rfl,below_step (E.lo (b2 hB)) b⟩) h,
   fun q V J h hi=>op_new76 hi rfl rfl h,
   fun q V J g pr hx hc hz h hi=>op_st76 hi rfl rfl rfl hx rfl (by obtain ⟨f,_,g,cap,e,_⟩:=hc;exact ⟨g,cap,e⟩) hz fun w' h1 h2 h3=>h undef w' h1 h2 h3,
   fun q V J pr hB hp hq h hi=>op_asgs hi rfl rfl rfl (hq 11 rfl) h,trivial⟩
  intro q V hB hx hI
  exact ⟨_,rfl,f0,f2,f5,f7,f8,got_mk (x:=q) (N:=W2.drew.heap.size) hI (b:=⟨12,13,5⟩) (by simp) (Nat.le_trans E.low.size (Nat.le_refl _)) (hx 5 (by decide) (by simp)),hx 14 (by decide) (by simp),b2 hB⟩
 rintro a' V0 ⟨g,rfl,p0,p2,p5,p7,p8,hg,⟨x,S,p13⟩,hB⟩
 rw[frN107]
 replace E:=E.below hB
 obtain ⟨b12,v12,k12,p12,o12,X,P,F⟩:=hg
 have t0:=(blk_cell E.bt 0).trans rfl
 simp at t0
 have HR2:r=quantP s.ss 8 x depth (implP k12 f):=by rw[HR.out,F,S];rfl
 have C160:=Aside0.mk (quantify_calls V0 bp mb s (E.bld.below E.low) 8 x depth (.func (.func 164) #[] #[.pointer (some ⟨b12,0,none⟩),.pointer (some ⟨w.heap.size+1,0,none⟩)]) (implP k12 f) (clo164 (bp:=0) (mb:=0) (Bb:=0) (Bt:=0) (s:=s) (t:=t) (A1:=none) (c1:=0) (A2:=none) (c2:=0) (fr_box X trivial) (P.mono (fun _ _ _=>trivial)) (fr_box E.bf trivial) (E.pf.below E.low)))
 rw[←HR2]at C160
 replace E:=Aside0.mk E
 clear HR F S X P y00 y01 y02 l01 i01 l02 i02 hl hB HL hf0 h44 hps hres hn
 clear HE0 HF0
 clear HR2
 cases r with
 |none =>
  go_wp2_with (go_at_call 160;refine C160.out.mono ?_;rintro e w5 ⟨hB,rfl⟩;have HB5:=Aside0.mk hB;clear hB)
  exact ⟨rfl,PostM.no (E.out.lo HB5.out)⟩
 |some m =>
  go_wp2_with (go_at_call 160;refine C160.out.mono ?_;rintro e w5 ⟨hB,v5,rfl,hv⟩;obtain ⟨E5,e5,F5,f5,rfl,hrest⟩:=id hv;clear hrest;have HB5:=Aside0.mk hB;have HV5:=Aside0.mk (hv.mono (ok' :=fun k=>w.heap.size+3≤k) (fun k hk=>Nat.le_trans E.out.sz hk));have RR:=Aside0.mk (blk_below E.out.br (HB5.out));obtain ⟨zf0,zf1,zf2,zf3,zf4,zf5,zf6,zf7,zf8,zc0,zc1,zc2,zc3,zc4,zc5,zc6,zc7,zc8⟩:=z9 RR.out;clear hB hv;unfold mnW)
  refine bodyPost_ret (results_single rfl (.cell (w.heap.size+2) 70 _ (0,0) _ rfl (fin9 (W:=w5) RR.out (.int .i64 m.f0.f0) (.string m.f0.f1) (.slice E5 m.f0.f2.length e5) (.int .i64 m.f0.f3) (.int .i64 m.f0.f4) (.slice F5 m.f0.f5.length f5) (.int .i64 m.f1) (.int .i64 m.f2) (.bool m.f3)) Tryz.underlying70 rfl (by kernel_rfl) .nil)) rfl ?_
  exact PostM.stored (E.out.lo HB5.out) HV5.out (by omega) (Nat.lt_succ_self _)
set_option maxHeartbeats 4000000 in
set_option maxRecDepth 100000 in
theorem apply_except (s:Sg) (n:Nat) (t:S30) (hn:nodes t≤n+1) (hres:resP t=true) (h44:NounC s n) (hps:∀p∈s.ps,1≤p.f1.length) (ef:t.f0=nEveryExcept) (hl:t.f2.length=2) (hf0:formedP structL (kidOf t 0) cCN=true) (hf1:formedP structL (kidOf t 1) cCN=true) (w:World) (bp mb:Nat) (A1:Option Addr) (c1:Nat) (A2:Option Addr) (c2:Nat) (hb:Bld w bp mb s) (tv:TreeV w t A1 c1 A2 c2) (depth:Int) (v:Value) (f:Prd) (hf:PrdV w (fun _=>True) v f) :
  Calls Tryz.prog 133 #[.pointer (some ⟨bp,0,none⟩),.agg #[.string t.f0,.slice A1 t.f1.length c1,.slice A2 t.f2.length c2],.int .i64 depth,v] w (PostM w (applyP s (n+1) t depth f)):=by
 obtain ⟨g0,cap0,rfl,hE0,hF0⟩:=id hf
 have E:=entA_mk hb tv hf
 have HE0:=Aside0.mk hE0
 have HF0:=Aside0.mk hF0
 clear hE0 hF0
 obtain ⟨ad0,B01,d01,B02,d02,e0,y00,y01,y02,l01,i01,l02,i02⟩:=at_T30 E.tv.k 0 (by omega) (by omega)
 subst e0
 obtain ⟨ad1,B11,d11,B12,d12,e1,y10,y11,y12,l11,i11,l12,i12⟩:=at_T30 E.tv.k 1 (by omega) (by omega)
 obtain rfl:=Option.some.inj e1
 have q0:(t.f0.toList == ([78,97,109,101]:List UInt8))=false:=by rw[ef];decide +kernel
 have q1:(t.f0.toList == ([66,111,116,104]:List UInt8))=false:=by rw[ef];decide +kernel
 have q2:(t.f0.toList == ([83,111,109,101]:List UInt8))=false:=by rw[ef];decide +kernel
 have q3:(t.f0.toList == ([78,111]:List UInt8))=false:=by rw[ef];decide +kernel
 have q4:(t.f0.toList == ([69,118,101,114,121,69,120,99,101,112,116]:List UInt8))=true:=by rw[ef];decide +kernel
 have HR:applyP s (n+1) t depth f=(nounP s n (kidOf t 0)).bind fun c=>(sortP s.ps n (kidOf t 0)).bind fun sort=>(nounP s n (kidOf t 1)).bind fun d=>quantP s.ss 8 sort depth (exceptP c d f):=by
  rw[applyP];simp only[isF,show (t.f0.toList == bName)=false from q0,show (t.f0.toList == bBoth)=false from q1,show (t.f0.toList == bSome)=false from q2,show (t.f0.toList == bNo)=false from q3,show (t.f0.toList == bExc)=true from q4];rfl
 generalize applyP s (n+1) t depth f=r at *
 replace HR:=Aside0.mk HR
 have x0:=blk_cell E.bt 0
 simp at x0
 replace E:=Aside0.mk E
 have HL:=Aside0.mk hl
 clear hb tv hf ef hl
 go_enter Tryz.func133,Tryz.ntmps133
 go_wp2_with fail
 clear x0
 replace E:=E.out
 have hl:=HL.out
 generalize hV2:(((w.alloc (.cells #[.string t.f0,.slice A1 t.f1.length c1,.slice (some ad0) t.f2.length c2] 30)).alloc (.cells #[.func (.func g0) #[] cap0] 76)).alloc (.cells #[.int .i64 0,.string ⟨#[]⟩,.slice none 0 0,.int .i64 0,.int .i64 0,.slice none 0 0,.int .i64 0,.int .i64 0,.bool false] 70))=W2 at *
 clear hV2
 refine wp_onNP (fun a' w' =>∃g,a' =frN 107 g∧g 0= .pointer (some ⟨bp,0,none⟩)∧g 2= .int .i64 depth∧g 5= .pointer (some ⟨w.heap.size,0,none⟩)∧g 7= .pointer (some ⟨w.heap.size+1,0,none⟩)∧g 8= .pointer (some ⟨w.heap.size+2,0,none⟩)∧Got w w w' (g 12) (nounP s n (kidOf t 0))∧(∃x,sortP s.ps n (kidOf t 0)=some x∧g 13= .string x)∧Below W2.heap.size W2 w') (fun w' =>r=none∧Below w.heap.size w w') (to_frN 107 rfl fun f1 hf=> ?_) ?_ (fun a' w' hd h=>by obtain ⟨e,hB⟩:=h;refine ⟨hd,?_⟩;rw[e];exact PostM.no hB)
 ·have f0:f1 0=_:=hf 0
  have f2:f1 2=_:=hf 2
  have f5:f1 5=_:=hf 5
  have f7:f1 7=_:=hf 7
  have f8:f1 8=_:=hf 8
  have b2:∀{V},Below W2.drew.heap.size W2.drew V→Below W2.heap.size W2 V:=fun hB=>below_step (below_drew (Below.refl _ _)) hB
  refine region_box 76 #[.nilFunc] (fun v=> #[v]) 107 [.is (.pointer (some ⟨bp,0,none⟩)),.is (.pointer (some ⟨w.heap.size,2,none⟩)),.is (.slice (some ad0) t.f2.length c2),.is (.pointer (some (ad0.add ((0:Int).toNat*3)))),.is (.agg #[.string (kidOf t 0).f0,.slice B01 (kidOf t 0).f1.length d01,.slice B02 (kidOf t 0).f2.length d02]),.fn (fun k=>k<w.heap.size∨w.heap.size≤k) (nounP s n (kidOf t 0)),.is (.pointer (some ⟨bp,0,none⟩)),.is (.pointer (some ⟨w.heap.size,2,none⟩)),.is (.slice (some ad0) t.f2.length c2),.is (.pointer (some (ad0.add ((0:Int).toNat*3)))),.is (.agg #[.string (kidOf t 0).f0,.slice B01 (kidOf t 0).f1.length d01,.slice B02 (kidOf t 0).f2.length d02]),.str (sortP s.ps n (kidOf t 0)),.top,.top,.str (sortP s.ps n (kidOf t 0))] [⟨12,13,5⟩] [61,62,63,64,65,66,67,68,69,70,71,72,12,913,13] f1 W2 (by kernel_rfl) (by kernel_rfl) (by kernel_rfl) ?_ ?_ ?_
  ·intro j hj v w pr
   have hj2:j=12∨j=13:=by
    refine Classical.byContradiction fun hn=>hj ?_
    intro b hb
    simp at hb
    rcases hb with rfl
    simp
    omega
   rcases hj2 with rfl | rfl<;>trivial
  ·exact ⟨fun q V J pr hB hp hq h hi=>op_mv hi rfl rfl f0 (h _ _ rfl (.refl _ _)),
   fun q V J pr hB hp hq h hi=>op_fa (c:=2) hi rfl rfl f5 (h _ _ rfl (.refl _ _)),
   fun q V J pr hB hp hq h hi=>op_ld28 hi rfl rfl (hq 1 rfl) (blk_cell (blk_below E.bt (b2 hB)) 2) (h _ _ rfl (.refl _ _)),
   fun q V J pr hB hp hq h hi=>op_ix hi rfl rfl (eq_true (by decide)) (eq_true (by omega)) (hq 2 rfl) (h _ _ rfl (.refl _ _)),
   fun q V J pr hB hp hq h hi=>op_ldT hi rfl rfl (hq 3 rfl) (pw_cell_below (E.lo (b2 hB)) y00) (pw_cell_below (E.lo (b2 hB)) y01) (pw_cell_below (E.lo (b2 hB)) y02) (h _ _ rfl (.refl _ _)),
   fun q V J pr hB hp hq h hi=>op_prdT (enters_of Tryz.func44 (by kernel_rfl) rfl) hi rfl rfl (hq 0 rfl) (hq 4 rfl) (h44 (kidOf t 0) (by have:=nodes_kid (t:=t) (i:=0) (by omega);omega) hf0 (res_kid hres (by omega)) w V bp mb B01 d01 B02 d02 (E.lo (b2 hB)) E.bld ⟨l01,i01,l02,i02⟩) rfl (fun e w' b=>⟨by rw[HR.out,e];rfl,below_step (E.lo (b2 hB)) b⟩) (fun k hk=>⟨Nat.le_trans E.low.size (hp k hk).1,(hp k hk).2⟩) (E.lo (b2 hB)).size h,
   fun q V J pr hB hp hq h hi=>op_mv hi rfl rfl f0 (h _ _ rfl (.refl _ _)),
   fun q V J pr hB hp hq h hi=>op_fa (c:=2) hi rfl rfl f5 (h _ _ rfl (.refl _ _)),
   fun q V J pr hB hp hq h hi=>op_ld28 hi rfl rfl (hq 7 rfl) (blk_cell (blk_below E.bt (b2 hB)) 2) (h _ _ rfl (.refl _ _)),
   fun q V J pr hB hp hq h hi=>op_ix hi rfl rfl (eq_true (by decide)) (eq_true (by omega)) (hq 8 rfl) (h _ _ rfl (.refl _ _)),
   fun q V J pr hB hp hq h hi=>op_ldT hi rfl rfl (hq 9 rfl) (pw_cell_below (E.lo (b2 hB)) y00) (pw_cell_below (E.lo (b2 hB)) y01) (pw_cell_below (E.lo (b2 hB)) y02) (h _ _ rfl (.refl _ _)),
   fun q V J pr hB hp hq h hi=>op_sort hi rfl rfl (hq 6 rfl) (hq 10 rfl) (sort_calls n (kidOf t 0) (by have:=nodes_kid (t:=t) (i:=0) (by omega);omega) hf0 V bp mb s B01 d01 B02 d02 (E.bld.below (E.lo (b2 hB))) (TreeV.below ⟨l01,i01,l02,i02⟩ (E.lo (b2 hB))) hps) rfl (fun e w' b=>⟨by obtain ⟨f5,e5,_⟩:=hq 5 rfl;rw[HR.out,e5,e];rfl,below_step (E.lo (b2 hB)) b⟩) h,
   fun q V J h hi=>op_new76 hi rfl rfl h,
   fun q V J g pr hx hc hz h hi=>op_st76 hi rfl rfl rfl hx rfl (by obtain ⟨f,_,g,cap,e,_⟩:=hc;exact ⟨g,cap,e⟩) hz fun w' h1 h2 h3=>h undef w' h1 h2 h3,
   fun q V J pr hB hp hq h hi=>op_asgs hi rfl rfl rfl (hq 11 rfl) h,trivial⟩
  intro q V hB hx hI
  exact ⟨_,rfl,f0,f2,f5,f7,f8,got_mk (x:=q) (N:=W2.drew.heap.size) hI (b:=⟨12,13,5⟩) (by simp) (Nat.le_trans E.low.size (Nat.le_refl _)) (hx 5 (by decide) (by simp)),hx 14 (by decide) (by simp),b2 hB⟩
 rintro a' V0 ⟨g,rfl,p0,p2,p5,p7,p8,hg,⟨x,S,p13⟩,hB⟩
 rw[frN107]
 replace E:=E.below hB
 obtain ⟨b12,v12,k12,p12,o12,X,P,F⟩:=hg
 have t0:=(blk_cell E.bt 0).trans rfl
 simp at t0
 have t2:=(blk_cell E.bt 2).trans rfl
 simp at t2
 replace y10:w.cell? _=some (.string (kidOf t 1).f0):=y10
 replace y11:w.cell? _=some (.slice B11 (kidOf t 1).f1.length d11):=y11
 replace y12:w.cell? _=some (.slice B12 (kidOf t 1).f2.length d12):=y12
 have ha1:ad0.add ((1:Int).toNat*3)=⟨ad0.block,ad0.off+3,none⟩:=rfl
 rw[ha1]at y10 y11 y12
 simp only[Nat.add_assoc,Nat.reduceAdd]at y11 y12
 have u0:=pw_cell_below E.low y10
 have u1:=pw_cell_below E.low y11
 have u2:=pw_cell_below E.low y12
 have hk1:1<t.f2.length:=by omega
 have CD:=Aside0.mk (h44 (kidOf t 1) (by have:=nodes_kid (t:=t) (i:=1) (by omega);omega) hf1 (res_kid hres (by omega)) w V0 bp mb B11 d11 B12 d12 E.low E.bld ⟨l11,i11,l12,i12⟩)
 have HR2:=Aside0.mk (show r=(nounP s n (kidOf t 1)).bind fun d=>quantP s.ss 8 x depth (exceptP k12 d f)from by rw[HR.out,F,S];rfl)
 have HQ:=Aside0.mk (fun (V:World) (hV:Below V0.heap.size V0 V) (d:Prd) (b2:Nat) (x2:Value) (hx2:BoxAt V b2 76 x2) (px2:PrdV V (fun _=>True) x2 d)=>quantify_calls V bp mb s (E.bld.below (E.lo hV)) 8 x depth (.func (.func 163) #[] #[.pointer (some ⟨b12,0,none⟩),.pointer (some ⟨b2,0,none⟩),.pointer (some ⟨w.heap.size+1,0,none⟩)]) (exceptP k12 d f) (clo163 (bp:=0) (mb:=0) (Bb:=0) (Bt:=0) (s:=s) (t:=t) (A1:=none) (c1:=0) (A2:=none) (c2:=0) (fr_box (X.below hV) trivial) ((P.mono (fun _ _ _=>trivial)).below hV) (fr_box hx2 trivial) px2 (fr_box (E.bf.below hV) trivial) (E.pf.below (E.lo hV))))
 replace E:=Aside0.mk E
 clear HR F S X P y00 y01 y02 l01 i01 l02 i02 hl hB HL hf0 h44 hps hres hn
 clear HE0 HF0 y10 y11 y12 l11 i11 l12 i12 hf1
 generalize kidOf t 1=kid1 at *
 cases hd:nounP s n kid1 with
 |none =>
  simp only[hd]at CD
  go_wp2_with (go_at_call 44;refine CD.out.mono ?_;rintro e w4 ⟨hB,rfl⟩;have HB4:=Aside0.mk hB;clear hB)
  exact ⟨rfl,by rw[HR2.out,hd];exact PostM.no (E.out.lo HB4.out)⟩
 |some kd =>
 simp only[hd]at CD
 have HR3:=Aside0.mk (show quantP s.ss 8 x depth (exceptP k12 kd f)=r by rw[HR2.out,hd];rfl)
 clear hd HR2
 cases r with
 |none =>
  go_wp2_with (first | (go_at_call 44;refine CD.out.mono ?_;rintro e w4 ⟨hB,v4,rfl,hv⟩;obtain ⟨g4,cap4,rfl,hq4⟩:=id hv;have HV4:=Aside0.mk (hv.mono (ok' :=fun _=>True) (fun _ _ _=>trivial));clear hq4 hv;have HB4:=Aside0.mk hB;clear hB;have C160:=Aside0.mk (HQ.out _ (below_alloc HB4.out (.cells #[.func (.func g4) #[] cap4] 76)) kd w4.heap.size _ (blk_new w4 _) (HV4.out.below (below_alloc (Below.refl _ w4) _)));rw[HR3.out]at C160) | (go_at_call 160;refine C160.out.mono ?_;rintro e w5 ⟨hB,rfl⟩;have HB5:=Aside0.mk hB;clear hB))
  exact ⟨rfl,PostM.no (E.out.lo (below_step (below_alloc HB4.out (.cells #[.func (.func g4) #[] cap4] 76)) HB5.out))⟩
 |some m =>
  go_wp2_with (first | (go_at_call 44;refine CD.out.mono ?_;rintro e w4 ⟨hB,v4,rfl,hv⟩;obtain ⟨g4,cap4,rfl,hq4⟩:=id hv;have HV4:=Aside0.mk (hv.mono (ok' :=fun _=>True) (fun _ _ _=>trivial));clear hq4 hv;have HB4:=Aside0.mk hB;clear hB;have C160:=Aside0.mk (HQ.out _ (below_alloc HB4.out (.cells #[.func (.func g4) #[] cap4] 76)) kd w4.heap.size _ (blk_new w4 _) (HV4.out.below (below_alloc (Below.refl _ w4) _)));rw[HR3.out]at C160) | (go_at_call 160;refine C160.out.mono ?_;rintro e w5 ⟨hB,v5,rfl,hv⟩;obtain ⟨E5,e5,F5,f5,rfl,hrest⟩:=id hv;clear hrest;have HB5:=Aside0.mk hB;have HV5:=Aside0.mk (hv.mono (ok' :=fun k=>w.heap.size+3≤k) (fun k hk=>Nat.le_trans E.out.sz (Nat.le_trans (below_alloc HB4.out (.cells #[.func (.func g4) #[] cap4] 76)).size hk)));have RR:=Aside0.mk (blk_below E.out.br (below_step (below_alloc HB4.out (.cells #[.func (.func g4) #[] cap4] 76)) HB5.out));obtain ⟨zf0,zf1,zf2,zf3,zf4,zf5,zf6,zf7,zf8,zc0,zc1,zc2,zc3,zc4,zc5,zc6,zc7,zc8⟩:=z9 RR.out;clear hB hv;unfold mnW))
  refine bodyPost_ret (results_single rfl (.cell (w.heap.size+2) 70 _ (0,0) _ rfl (fin9 (W:=w5) RR.out (.int .i64 m.f0.f0) (.string m.f0.f1) (.slice E5 m.f0.f2.length e5) (.int .i64 m.f0.f3) (.int .i64 m.f0.f4) (.slice F5 m.f0.f5.length f5) (.int .i64 m.f1) (.int .i64 m.f2) (.bool m.f3)) Tryz.underlying70 rfl (by kernel_rfl) .nil)) rfl ?_
  exact PostM.stored (E.out.lo (below_step (below_alloc HB4.out (.cells #[.func (.func g4) #[] cap4] 76)) HB5.out)) HV5.out (by omega) (Nat.lt_succ_self _)
end
theorem mean_calls (s:Sg) (hps:∀p∈s.ps,1≤p.f1.length):∀n,NounC s n∧VerbC s n∧ApplyN s n
 |0=>⟨fun t hn=>absurd hn (by have:=nodes_eq t;omega),fun t hn=>absurd hn (by have:=nodes_eq t;omega),fun t hn=>absurd hn (by have:=nodes_eq t;omega)⟩
 |n+1=>by
  obtain ⟨hN,hV,hA⟩:=mean_calls s hps n
  refine ⟨?_,?_,?_⟩
  ·intro t hn hf hr w0 w bp mb A1 c1 A2 c2 h0 hb tv
   obtain ⟨_,hs⟩:=shape_CN hf
   rcases hs with ⟨e0,hl,hz,_⟩ | ⟨e0,hl,hz,_,hf1⟩ | ⟨e0,hl,hz,hf0,hf1⟩
   ·exact noun_noun s n t w0 w bp mb A1 c1 A2 c2 h0 hb tv e0 hl
   ·exact noun_adj s n t hn hr hN w0 w bp mb A1 c1 A2 c2 h0 hb tv e0 hl hf1
   ·exact noun_who s n t hn hr hN hV w0 w bp mb A1 c1 A2 c2 h0 hb tv e0 hl hf0 hf1
  ·intro t hn hf hr w0 w bp mb A1 c1 A2 c2 h0 hb tv
   obtain ⟨_,hs⟩:=shape_VP hf
   rcases hs with ⟨e0,hl,hz,_⟩ | ⟨e0,hl,hz,_,hf1⟩ | ⟨e0,hl,hz,_,hf1,hf2⟩ | ⟨e0,hl,hz,_⟩ | ⟨e0,hl,hz,hf0,hf1⟩
   ·exact verb_act s n t hn hr w0 w bp mb A1 c1 A2 c2 h0 hb tv e0 hl hz
   ·exact verb_do s n t hn hr hA w0 w bp mb A1 c1 A2 c2 h0 hb tv e0 hl hz hf1
   ·exact verb_give s n t hn hr hA w0 w bp mb A1 c1 A2 c2 h0 hb tv e0 hl hz hf1 hf2
   ·obtain ⟨aa,rfl,_⟩:=tv.v.2.2 (by omega)
    exact verb_cost s n t hn hr w0 w bp mb aa c1 A2 c2 h0 hb tv e0 hl hz
   ·exact verb_and s n t hn hr hV w0 w bp mb A1 c1 A2 c2 h0 hb tv e0 hl hf0 hf1
  ·intro t hn hf hr w bp mb hb A1 c1 A2 c2 hv hl1 hk hl2 depth v f hp
   have tv:TreeV w t A1 c1 A2 c2:=⟨hl1,hv,hl2,hk⟩
   obtain ⟨r1,r2⟩:=res_not hr
   obtain ⟨_,hs⟩:=shape_NP hf
   rcases hs with ⟨e0,hl,hz,_⟩ | ⟨e0,hl,hz,hf0⟩ | ⟨e0,hl,hz,hf0⟩ | ⟨e0,hl,hz,hf0⟩ | ⟨e0,hl,hz,hf0,hf1⟩ | ⟨e0,hl,hz,hf0,hf1⟩ | ⟨e0,_⟩ | ⟨e0,_⟩
   ·exact apply_name s n t e0 hl w bp mb A1 c1 A2 c2 hb tv depth v f hp
   ·exact apply_every s n t hn hr hN hps e0 hl hf0 w bp mb A1 c1 A2 c2 hb tv depth v f hp
   ·exact apply_some s n t hn hr hN hps e0 hl hf0 w bp mb A1 c1 A2 c2 hb tv depth v f hp
   ·exact apply_no s n t hn hr hN hps e0 hl hf0 w bp mb A1 c1 A2 c2 hb tv depth v f hp
   ·exact apply_except s n t hn hr hN hps e0 hl hf0 hf1 w bp mb A1 c1 A2 c2 hb tv depth v f hp
   ·exact apply_both s n t hn hr hA e0 hl hf0 hf1 w bp mb A1 c1 A2 c2 hb tv depth v f hp
   ·exact absurd e0 r1
   ·exact absurd e0 r2
end Go.Proofs.YtcfjomnihhdpaaaGreatDoor.A
namespace Go.Proofs
open Go.Shelf
section
def Tryz.lays169_ren:Go.Shelf.Ren:=⟨fun | 169=>76 | n=>n,fun | 70=>108 | 9=>9 | 0=>0 | 72=>111 | 37=>109 | 127=>158 | 3=>3 | 5=>5 | n=>n,fun | n=>n⟩
theorem Tryz.lays169:Go.Proofs.Lays.n169 Tryz.prog Tryz.lays169_ren:={
 mixed:=by kernel_rfl
 f169:=Tryz.func76.trans (congrArg some (by kernel_rfl))
 t0:=Tryz.underlying0
 a0:=Tryz.isAgg0
 z0:=Tryz.sizeOf0
 v0:=Tryz.zeroValue0
 t3:=Tryz.underlying3
 a3:=Tryz.isAgg3
 z3:=Tryz.sizeOf3
 v3:=Tryz.zeroValue3
 t9:=Tryz.underlying9
 a9:=Tryz.isAgg9
 z9:=Tryz.sizeOf9
 v9:=Tryz.zeroValue9
 t37:=Tryz.underlying109
 a37:=Tryz.isAgg109
 z37:=Tryz.sizeOf109
 v37:=Tryz.zeroValue109
 t70:=Tryz.underlying108
 a70:=Tryz.isAgg108
 z70:=Tryz.sizeOf108
 v70:=Tryz.zeroValue108
 t72:=Tryz.underlying111
 a72:=Tryz.isAgg111
 z72:=Tryz.sizeOf111
 v72:=Tryz.zeroValue111
 t127:=Tryz.underlying158
 a127:=Tryz.isAgg158
 z127:=Tryz.sizeOf158
 v127:=Tryz.zeroValue158}
theorem Tryz.Builder_Extra_169:Builder.Extra Tryz.prog Tryz.lays169_ren:={
 sizeBuilder:=by kernel_rfl
 liesBuilder:=by kernel_rfl
 t5:=Tryz.underlying5
 a5:=Tryz.isAgg5
 z5:=Tryz.sizeOf5
 v5:=Tryz.zeroValue5
 infoByte:=by kernel_rfl
 cellsByte:=by kernel_rfl
 sizeByte:=by kernel_rfl
 neB5:=by decide}
open Go.RowKit in
/-- (*strings.Builder).String: "String returns the accumulated string.": WHATEVER THE BUILDER HOLDS. (LAID: no walk: one application.) -/
theorem Tryz.Builder_String_any (B b:Nat) (l:List UInt8) (w:World) (h:Lib.IsBuilder 111 5 B b (Lib.byteCells l) w) (hBw:B≤w.heap.size) :
  Calls Tryz.prog 76 #[.pointer (some ⟨b,0,none⟩)] w fun e w' =>e= .returned (.string ⟨l.toArray⟩)∧Below B w w' :=Any.Builder_String_any Tryz.lays169 Tryz.Builder_Extra_169 B b l w h hBw
def Tryz.lays339_ren:Go.Shelf.Ren:=⟨fun | 339=>191 | 345=>197 | 346=>198 | n=>n,fun | 21=>21 | 4=>4 | 49=>220 | 234=>221 | 131=>222 | 3=>3 | 0=>0 | 51=>210 | 236=>224 | 46=>205 | n=>n,fun | 20=>3 | 21=>4 | 22=>5 | 23=>6 | n=>n⟩
theorem Tryz.lays339:Go.Proofs.Lays.n339 Tryz.prog Tryz.lays339_ren:={
 mixed:=by kernel_rfl
 f339:=Tryz.func191.trans (congrArg some (by kernel_rfl))
 f345:=Tryz.func197.trans (congrArg some (by kernel_rfl))
 f346:=Tryz.func198.trans (congrArg some (by kernel_rfl))
 t0:=Tryz.underlying0
 a0:=Tryz.isAgg0
 z0:=Tryz.sizeOf0
 v0:=Tryz.zeroValue0
 t3:=Tryz.underlying3
 a3:=Tryz.isAgg3
 z3:=Tryz.sizeOf3
 v3:=Tryz.zeroValue3
 t4:=Tryz.underlying4
 a4:=Tryz.isAgg4
 z4:=Tryz.sizeOf4
 v4:=Tryz.zeroValue4
 t21:=Tryz.underlying21
 a21:=Tryz.isAgg21
 z21:=Tryz.sizeOf21
 v21:=Tryz.zeroValue21
 t46:=Tryz.underlying205
 a46:=Tryz.isAgg205
 z46:=Tryz.sizeOf205
 v46:=Tryz.zeroValue205
 t49:=Tryz.underlying220
 a49:=Tryz.isAgg220
 z49:=Tryz.sizeOf220
 v49:=Tryz.zeroValue220
 t51:=Tryz.underlying210
 a51:=Tryz.isAgg210
 z51:=Tryz.sizeOf210
 v51:=Tryz.zeroValue210
 t131:=Tryz.underlying222
 a131:=Tryz.isAgg222
 z131:=Tryz.sizeOf222
 v131:=Tryz.zeroValue222
 t234:=Tryz.underlying221
 a234:=Tryz.isAgg221
 z234:=Tryz.sizeOf221
 v234:=Tryz.zeroValue221
 t236:=Tryz.underlying224
 a236:=Tryz.isAgg224
 z236:=Tryz.sizeOf224
 v236:=Tryz.zeroValue224
 g20:=by kernel_rfl
 g21:=by kernel_rfl
 g22:=by kernel_rfl
 g23:=by kernel_rfl}
def Tryz.lays177_ren:Go.Shelf.Ren:=⟨fun | 177=>143 | 250=>167 | 289=>177 | 197=>183 | 323=>184 | 260=>190 | 339=>191 | 340=>192 | 242=>193 | 119=>194 | 345=>197 | 346=>198 | 278=>199 | n=>n,fun | 9=>9 | 5=>5 | 4=>4 | 3=>3 | 37=>109 | 21=>21 | 105=>203 | 46=>205 | 119=>216 | 0=>0 | 139=>219 | 138=>218 | 49=>220 | 234=>221 | 131=>222 | 51=>210 | 236=>224 | n=>n,fun | 3=>1 | 4=>2 | 20=>3 | 21=>4 | 22=>5 | 23=>6 | 24=>7 | n=>n⟩
theorem Tryz.lays177:Go.Proofs.Lays.n177 Tryz.prog Tryz.lays177_ren:={
 mixed:=by kernel_rfl
 f119:=Tryz.func194.trans (congrArg some (by kernel_rfl))
 f177:=Tryz.func143.trans (congrArg some (by kernel_rfl))
 f197:=Tryz.func183.trans (congrArg some (by kernel_rfl))
 f242:=Tryz.func193.trans (congrArg some (by kernel_rfl))
 f250:=Tryz.func167.trans (congrArg some (by kernel_rfl))
 f260:=Tryz.func190.trans (congrArg some (by kernel_rfl))
 f278:=Tryz.func199.trans (congrArg some (by kernel_rfl))
 f289:=Tryz.func177.trans (congrArg some (by kernel_rfl))
 f323:=Tryz.func184.trans (congrArg some (by kernel_rfl))
 f339:=Tryz.func191.trans (congrArg some (by kernel_rfl))
 f340:=Tryz.func192.trans (congrArg some (by kernel_rfl))
 f345:=Tryz.func197.trans (congrArg some (by kernel_rfl))
 f346:=Tryz.func198.trans (congrArg some (by kernel_rfl))
 t0:=Tryz.underlying0
 a0:=Tryz.isAgg0
 z0:=Tryz.sizeOf0
 v0:=Tryz.zeroValue0
 t3:=Tryz.underlying3
 a3:=Tryz.isAgg3
 z3:=Tryz.sizeOf3
 v3:=Tryz.zeroValue3
 t4:=Tryz.underlying4
 a4:=Tryz.isAgg4
 z4:=Tryz.sizeOf4
 v4:=Tryz.zeroValue4
 t5:=Tryz.underlying5
 a5:=Tryz.isAgg5
 z5:=Tryz.sizeOf5
 v5:=Tryz.zeroValue5
 t9:=Tryz.underlying9
 a9:=Tryz.isAgg9
 z9:=Tryz.sizeOf9
 v9:=Tryz.zeroValue9
 t21:=Tryz.underlying21
 a21:=Tryz.isAgg21
 z21:=Tryz.sizeOf21
 v21:=Tryz.zeroValue21
 t37:=Tryz.underlying109
 a37:=Tryz.isAgg109
 z37:=Tryz.sizeOf109
 v37:=Tryz.zeroValue109
 t46:=Tryz.underlying205
 a46:=Tryz.isAgg205
 z46:=Tryz.sizeOf205
 v46:=Tryz.zeroValue205
 t49:=Tryz.underlying220
 a49:=Tryz.isAgg220
 z49:=Tryz.sizeOf220
 v49:=Tryz.zeroValue220
 t51:=Tryz.underlying210
 a51:=Tryz.isAgg210
 z51:=Tryz.sizeOf210
 v51:=Tryz.zeroValue210
 t105:=Tryz.underlying203
 a105:=Tryz.isAgg203
 z105:=Tryz.sizeOf203
 v105:=Tryz.zeroValue203
 t119:=Tryz.underlying216
 a119:=Tryz.isAgg216
 z119:=Tryz.sizeOf216
 t131:=Tryz.underlying222
 a131:=Tryz.isAgg222
 z131:=Tryz.sizeOf222
 v131:=Tryz.zeroValue222
 t138:=Tryz.underlying218
 a138:=Tryz.isAgg218
 z138:=Tryz.sizeOf218
 v138:=Tryz.zeroValue218
 t139:=Tryz.underlying219
 a139:=Tryz.isAgg219
 z139:=Tryz.sizeOf219
 v139:=Tryz.zeroValue219
 t234:=Tryz.underlying221
 a234:=Tryz.isAgg221
 z234:=Tryz.sizeOf221
 v234:=Tryz.zeroValue221
 t236:=Tryz.underlying224
 a236:=Tryz.isAgg224
 z236:=Tryz.sizeOf224
 v236:=Tryz.zeroValue224
 g3:=by kernel_rfl
 g4:=by kernel_rfl
 g20:=by kernel_rfl
 g21:=by kernel_rfl
 g22:=by kernel_rfl
 g23:=by kernel_rfl
 g24:=by kernel_rfl}
open Go.RowKit in
/-- **strconv.Quote AT EVERY STRING, VALID UTF-8 OR NOT** (of at most some 2^43 bytes: ten bytes may come of one): 'strOfNums (Lib.quoteZ T s)': Derived/Lib/QuoteLoop.lean: a row of Lean a statement of Go. Of what was there nothing has turned. (LAID: no walk: one application.) -/
theorem Tryz.strconv_Quote (T:Lib.PrintTabs) (s:ByteArray) (w:World) (hlen:10*s.size+12≤140737488355328) (hT:Lib.PrintTabsAt 3 4 5 6 T w) (hU:Lib.Utf8Tabs 1 2 w) :
  Calls Tryz.prog 143 #[.string s] w fun e w' =>e= .returned (.string (strOfNums (Lib.quoteZ T s)))∧Below w.heap.size w w' :=Any.strconv_Quote Tryz.lays177 (by kernel_rfl) T s w hlen hT hU
def Tryz.laysM171_ren:Go.Shelf.Ren:=⟨fun | 171=>124 | 243=>157 | 246=>175 | 283=>179 | 284=>180 | 285=>181 | 286=>182 | 129=>186 | 317=>185 | 318=>187 | 319=>188 | 320=>189 | 337=>195 | 338=>196 | n=>n,fun | 3=>3 | 9=>9 | 2=>2 | 4=>4 | 171=>197 | 0=>0 | 53=>198 | 37=>109 | 5=>5 | 173=>201 | 212=>209 | 51=>210 | 20=>20 | 213=>211 | 46=>205 | 232=>226 | 233=>227 | n=>n,fun | 17=>0 | 18=>8 | 19=>9 | n=>n⟩
theorem Tryz.laysM171:Go.Proofs.LaysM.n171 Tryz.prog Tryz.laysM171_ren:={
 mixed:=by kernel_rfl
 f129:=Tryz.func186.trans (congrArg some (by kernel_rfl))
 f171:=Tryz.func124.trans (congrArg some (by kernel_rfl))
 f243:=Tryz.func157.trans (congrArg some (by kernel_rfl))
 f246:=Tryz.func175.trans (congrArg some (by kernel_rfl))
 f283:=Tryz.func179.trans (congrArg some (by kernel_rfl))
 f284:=Tryz.func180.trans (congrArg some (by kernel_rfl))
 f285:=Tryz.func181.trans (congrArg some (by kernel_rfl))
 f286:=Tryz.func182.trans (congrArg some (by kernel_rfl))
 f317:=Tryz.func185.trans (congrArg some (by kernel_rfl))
 f318:=Tryz.func187.trans (congrArg some (by kernel_rfl))
 f319:=Tryz.func188.trans (congrArg some (by kernel_rfl))
 f320:=Tryz.func189.trans (congrArg some (by kernel_rfl))
 f337:=Tryz.func195.trans (congrArg some (by kernel_rfl))
 f338:=Tryz.func196.trans (congrArg some (by kernel_rfl))
 t0:=Tryz.underlying0
 a0:=Tryz.isAgg0
 z0:=Tryz.sizeOf0
 v0:=Tryz.zeroValue0
 t2:=Tryz.underlying2
 a2:=Tryz.isAgg2
 z2:=Tryz.sizeOf2
 v2:=Tryz.zeroValue2
 t3:=Tryz.underlying3
 a3:=Tryz.isAgg3
 z3:=Tryz.sizeOf3
 v3:=Tryz.zeroValue3
 t4:=Tryz.underlying4
 a4:=Tryz.isAgg4
 z4:=Tryz.sizeOf4
 v4:=Tryz.zeroValue4
 t5:=Tryz.underlying5
 a5:=Tryz.isAgg5
 z5:=Tryz.sizeOf5
 v5:=Tryz.zeroValue5
 t9:=Tryz.underlying9
 a9:=Tryz.isAgg9
 z9:=Tryz.sizeOf9
 v9:=Tryz.zeroValue9
 t20:=Tryz.underlying20
 a20:=Tryz.isAgg20
 z20:=Tryz.sizeOf20
 v20:=Tryz.zeroValue20
 t37:=Tryz.underlying109
 a37:=Tryz.isAgg109
 z37:=Tryz.sizeOf109
 v37:=Tryz.zeroValue109
 t46:=Tryz.underlying205
 a46:=Tryz.isAgg205
 z46:=Tryz.sizeOf205
 v46:=Tryz.zeroValue205
 t51:=Tryz.underlying210
 a51:=Tryz.isAgg210
 z51:=Tryz.sizeOf210
 v51:=Tryz.zeroValue210
 t53:=Tryz.underlying198
 a53:=Tryz.isAgg198
 z53:=Tryz.sizeOf198
 v53:=Tryz.zeroValue198
 t171:=Tryz.underlying197
 a171:=Tryz.isAgg197
 z171:=Tryz.sizeOf197
 v171:=Tryz.zeroValue197
 t173:=Tryz.underlying201
 a173:=Tryz.isAgg201
 z173:=Tryz.sizeOf201
 v173:=Tryz.zeroValue201
 t212:=Tryz.underlying209
 a212:=Tryz.isAgg209
 z212:=Tryz.sizeOf209
 v212:=Tryz.zeroValue209
 t213:=Tryz.underlying211
 a213:=Tryz.isAgg211
 z213:=Tryz.sizeOf211
 t232:=Tryz.underlying226
 a232:=Tryz.isAgg226
 z232:=Tryz.sizeOf226
 v232:=Tryz.zeroValue226
 t233:=Tryz.underlying227
 a233:=Tryz.isAgg227
 z233:=Tryz.sizeOf227
 v233:=Tryz.zeroValue227
 g17:=by kernel_rfl
 g18:=by kernel_rfl
 g19:=by kernel_rfl
 i0:=by kernel_rfl
 i2:=by kernel_rfl
 i3:=by kernel_rfl
 i4:=by kernel_rfl
 i5:=by kernel_rfl
 i9:=by kernel_rfl
 i20:=by kernel_rfl
 i37:=by kernel_rfl
 i46:=by kernel_rfl
 i51:=by kernel_rfl
 i53:=by kernel_rfl
 i171:=by kernel_rfl
 i173:=by kernel_rfl
 i212:=by kernel_rfl
 i232:=by kernel_rfl
 i233:=by kernel_rfl
 m17:=by kernel_rfl
 m18:=by kernel_rfl
 m19:=by kernel_rfl}
open Go.RowKit Go.Sort Go.Lib in
/-- strconv.Itoa: "Itoa is equivalent to FormatInt(int64(i), 10).": i's DECIMAL NUMERAL ('Lib.itoa': a '-' where i is negative, then the digits), FOR EVERY int. The world behind the call: the world before it, new blocks behind the heap (the library's 'var a [24]byte'), draws. (LAID: no walk: one application.) -/
theorem Tryz.strconv_Itoa (n:Int) (h0: -9223372036854775808≤n) (h1:n≤9223372036854775807) (w:World) (htab:Lib.TabIs Tryz.prog w "internal/strconv.uint64pow10" .u64 Lib.pow10Tab) :
  Calls Tryz.prog 124 #[.int .i64 n] w fun e w' =>e= .returned (.string ⟨(Lib.itoa n).toArray⟩)∧∃k os,w' =grow (w.drewN k) os:=Any.strconv_Itoa Tryz.laysM171 n h0 h1 w htab
def Tryz.lays260_ren:Go.Shelf.Ren:=⟨fun | 260=>190 | n=>n,fun | 9=>9 | 21=>21 | 3=>3 | 4=>4 | 5=>5 | 119=>216 | 0=>0 | 46=>205 | 139=>219 | 138=>218 | n=>n,fun | 3=>1 | 4=>2 | n=>n⟩
theorem Tryz.lays260:Go.Proofs.Lays.n260 Tryz.prog Tryz.lays260_ren:={
 mixed:=by kernel_rfl
 f260:=Tryz.func190.trans (congrArg some (by kernel_rfl))
 t0:=Tryz.underlying0
 a0:=Tryz.isAgg0
 z0:=Tryz.sizeOf0
 v0:=Tryz.zeroValue0
 t3:=Tryz.underlying3
 a3:=Tryz.isAgg3
 z3:=Tryz.sizeOf3
 v3:=Tryz.zeroValue3
 t4:=Tryz.underlying4
 a4:=Tryz.isAgg4
 z4:=Tryz.sizeOf4
 v4:=Tryz.zeroValue4
 t5:=Tryz.underlying5
 a5:=Tryz.isAgg5
 z5:=Tryz.sizeOf5
 v5:=Tryz.zeroValue5
 t9:=Tryz.underlying9
 a9:=Tryz.isAgg9
 z9:=Tryz.sizeOf9
 v9:=Tryz.zeroValue9
 t21:=Tryz.underlying21
 a21:=Tryz.isAgg21
 z21:=Tryz.sizeOf21
 v21:=Tryz.zeroValue21
 t46:=Tryz.underlying205
 a46:=Tryz.isAgg205
 z46:=Tryz.sizeOf205
 v46:=Tryz.zeroValue205
 t119:=Tryz.underlying216
 a119:=Tryz.isAgg216
 z119:=Tryz.sizeOf216
 t138:=Tryz.underlying218
 a138:=Tryz.isAgg218
 z138:=Tryz.sizeOf218
 v138:=Tryz.zeroValue218
 t139:=Tryz.underlying219
 a139:=Tryz.isAgg219
 z139:=Tryz.sizeOf219
 v139:=Tryz.zeroValue219
 g3:=by kernel_rfl
 g4:=by kernel_rfl}
end
end Go.Proofs
namespace Go.Proofs.YtcfjomnihhdpaaaGreatDoor.A
open Go.RowKit Go.Proofs.YtcfjomnihhdpaaaGreatDoorW.PrintWords Go.Proofs.YtcfjomnihhdpaaaGreatDoorW.PrintLast Go.Proofs.YtcfjomnihhdpaaaGreatDoorW.PrintMore
set_option linter.unusedVariables false
set_option linter.unusedSimpArgs false
structure Tabs (T:Lib.PrintTabs) (w:World):Prop where
 p:Lib.PrintTabsAt 3 4 5 6 T w
 u:Lib.Utf8Tabs 1 2 w
 i:Lib.TabIs Tryz.prog w "internal/strconv.uint64pow10" .u64 Lib.pow10Tab
theorem Tabs.below {T:Lib.PrintTabs} {w w' :World} (h:Tabs T w) (hB:Below w.heap.size w w'):Tabs T w' :=
 ⟨Go.Proofs.printTabs_below h.p hB,Go.Proofs.Utf8Tabs_below h.u hB,Lib.tabBelow_of_tabIs h.i w' hB⟩
def quoteB (T:Lib.PrintTabs) (s:ByteArray):ByteArray:=strOfNums (Lib.quoteZ T s)
def itoaB (n:Int):ByteArray:=⟨(Lib.itoa n).toArray⟩
theorem quote_calls (T:Lib.PrintTabs) (s:ByteArray) (w:World) (hs:s.size≤2000000) (h:Tabs T w):Calls Tryz.prog 143 #[.string s] w fun e w' =>e= .returned (.string (quoteB T s))∧Below w.heap.size w w' :=
 Tryz.strconv_Quote T s w (by omega) h.p h.u
theorem itoa_calls (T:Lib.PrintTabs) (n:Int) (w:World) (h0:0≤n) (h1:n≤9223372036854775807) (h:Tabs T w):Calls Tryz.prog 124 #[.int .i64 n] w fun e w' =>e= .returned (.string (itoaB n))∧Below w.heap.size w w' :=by
 refine (Tryz.strconv_Itoa n (by omega) h1 w h.i).mono ?_
 rintro e w' ⟨rfl,k,os,rfl⟩
 exact ⟨rfl,Lib.below_grow _ _ (Nat.le_refl _) _ _⟩
def valsK (s:ByteArray):List Int→ByteArray
 | []=>s
 |v::r=>valsK (s++(itoaB v++⟨#[44]⟩)) r
mutual
/-- A tree's key. -/
def keyP (T:Lib.PrintTabs):S30→ByteArray
 |⟨f,vs,ks⟩=>keysK T (valsK (quoteB T f++⟨#[40]⟩) vs) ks++⟨#[41]⟩
def keysK (T:Lib.PrintTabs) (s:ByteArray):List S30→ByteArray
 | []=>s
 |k::r=>keysK T (s++keyP T k) r
end
theorem keyP_eq (T:Lib.PrintTabs) (t:S30):keyP T t=keysK T (valsK (quoteB T t.f0++⟨#[40]⟩) t.f1) t.f2++⟨#[41]⟩:=by cases t;simp only[keyP]
theorem valsK_size:∀(vs:List Int) (s:ByteArray),s.size≤(valsK s vs).size
 | [],s=>Nat.le_refl _
 |v::r,s=>by
  have:=valsK_size r (s++(itoaB v++⟨#[44]⟩))
  rw[valsK]
  rw[ByteArray.size_append]at this
  omega
theorem keysK_size (T:Lib.PrintTabs):∀(ks:List S30) (s:ByteArray),s.size≤(keysK T s ks).size
 | [],s=>by rw[keysK];exact Nat.le_refl _
 |k::r,s=>by
  have:=keysK_size T r (s++keyP T k)
  rw[keysK]
  rw[ByteArray.size_append]at this
  omega
theorem sum_ok {a b:ByteArray} {n:Nat} (h:(a++b).size≤n) (hn:n≤9223372036854775807):(9223372036854775807<a.size+b.size)=False:=by
 rw[ByteArray.size_append]at h
 exact eq_false (by omega)
set_option maxHeartbeats 2000000 in
set_option maxRecDepth 100000 in
theorem key_step (T:Lib.PrintTabs) (t:S30) (w:World) (hT:Tabs T w) (hs:t.f0.size≤2000000) (hv:∀v∈t.f1,0≤v∧v≤9223372036854775807) (hk:(keyP T t).size≤1099511627776) (A1:Option Addr) (c1:Nat) (A2:Option Addr) (c2:Nat) (tv:TreeV w t A1 c1 A2 c2) (hl1:t.f1.length≤2000000) (hl2:t.f2.length≤2000000)
  (ih:∀(x:S30) (B1:Option Addr) (d1:Nat) (B2:Option Addr) (d2:Nat) (W:World),x∈t.f2→Below w.heap.size w W→TreeV W x B1 d1 B2 d2→(keyP T x).size≤1099511627776→Calls Tryz.prog 99 #[.agg #[.string x.f0,.slice B1 x.f1.length d1,.slice B2 x.f2.length d2]] W fun e w' =>e= .returned (.string (keyP T x))∧Below W.heap.size W w') :
  Calls Tryz.prog 99 #[.agg #[.string t.f0,.slice A1 t.f1.length c1,.slice A2 t.f2.length c2]] w fun e w' =>e= .returned (.string (keyP T t))∧Below w.heap.size w w' :=by
 have HB1:=Aside0.mk (below_alloc (Below.refl w.heap.size w) (.cells #[.string t.f0,.slice A1 t.f1.length c1,.slice A2 t.f2.length c2] 30))
 have HX:=Aside0.mk (blk_new w (.cells #[.string t.f0,.slice A1 t.f1.length c1,.slice A2 t.f2.length c2] 30))
 have HT:=Aside0.mk hT
 have TV:=Aside0.mk tv
 have HK:=Aside0.mk (keyP_eq T t)
 have HV:=Aside0.mk hv
 have HI:=Aside0.mk ih
 have C0:=Aside0.mk (quote_calls T t.f0 _ hs (hT.below HB1.out))
 have hk1:(quoteB T t.f0++⟨#[40]⟩).size≤1099511627776:=by
  have h1:=keysK_size T t.f2 (valsK (quoteB T t.f0++⟨#[40]⟩) t.f1)
  have h2:=valsK_size t.f1 (quoteB T t.f0++⟨#[40]⟩)
  rw[keyP_eq,ByteArray.size_append]at hk
  omega
 have hz0:(9223372036854775807<(quoteB T t.f0).size+1)=False:=sum_ok hk1 (by omega)
 have HS:=Aside0.mk (show (keysK T (valsK (quoteB T t.f0++⟨#[40]⟩) t.f1) t.f2).size+1≤1099511627776 by rw[keyP_eq,ByteArray.size_append]at hk;exact hk)
 clear hk1 hk hv ih tv hT hs
 rw[HK.out]
 generalize quoteB T t.f0=q0 at *
 go_enter Tryz.func99,Tryz.ntmps99
 go_wp2_with (go_at_call 143;refine C0.out.mono ?_;rintro e w2 ⟨rfl,hB⟩;have HB2:=Aside0.mk (below_step HB1.out hB);have HX2:=Aside0.mk (blk_below HX.out hB);clear hB;have x1:=blk_cell HX2.out 1;simp at x1)
 clear hz0 C0 x1
 go_loopw [3,15] (fun sv i w' =>∃(sb:ByteArray) (x:Int),sv= .string sb∧i= .int .i64 x∧0≤x∧x≤t.f1.length∧Aside0 (Below w2.heap.size w2 w')∧Aside0 (valsK (q0++⟨#[40]⟩) t.f1=valsK sb (t.f1.drop x.toNat))) (fun _ i _=>t.f1.length-(intOf i).toNat)
 case atStart=>exact ⟨q0++⟨#[40]⟩,0,rfl,rfl,Int.le_refl _,Int.natCast_nonneg _,⟨Below.refl _ _⟩,⟨rfl⟩⟩
 case round =>
  obtain ⟨sb,x,rfl,rfl,hx,hxk,HBL,HL⟩:=hrel
  by_cases hlt:x<t.f1.length
  ·obtain ⟨ad,e,hx0⟩:=Kd.at_int TV.out.v x hx hlt
   cases e
   have hBq:=below_step HB2.out HBL.out
   replace hx0:=(hBq.cell (World.block_lt_of_cell? w _ hx0)).trans hx0
   have p1:=eq_true hx
   have q1:=eq_true hlt
   have hdr:=rd_get t.f1 x hx hlt
   have hvv:=HV.out (rd t.f1 x) (List.mem_of_mem_drop (i:=x.toNat) (by rw[hdr];simp))
   have HL2:Aside0 (valsK (q0++⟨#[40]⟩) t.f1=valsK (sb++(itoaB (rd t.f1 x)++⟨#[44]⟩)) (t.f1.drop (x+1).toNat)):=⟨by rw[HL.out,hdr,valsK]⟩
   have hsz:(sb++(itoaB (rd t.f1 x)++⟨#[44]⟩)).size≤1099511627776:=by
    have h1:=keysK_size T t.f2 (valsK (q0++⟨#[40]⟩) t.f1)
    have h2:=valsK_size (t.f1.drop (x+1).toNat) (sb++(itoaB (rd t.f1 x)++⟨#[44]⟩))
    rw[←HL2.out]at h2
    have:=HS.out
    omega
   have C1:=Aside0.mk (itoa_calls T (rd t.f1 x) wr hvv.1 hvv.2 (HT.out.below hBq))
   generalize rd t.f1 x=v at *
   generalize itoaB v=iv at *
   have hz1:(9223372036854775807<iv.size+1)=False:=eq_false (by rw[ByteArray.size_append,ByteArray.size_append]at hsz;omega)
   have hz2:(9223372036854775807<sb.size+(iv.size+1))=False:=eq_false (by rw[ByteArray.size_append,ByteArray.size_append]at hsz;have:(⟨#[44]⟩:ByteArray).size=1:=rfl;omega)
   clear hdr hvv hsz HL hBq
   go_wp2_with (go_at_call 124;refine C1.out.mono ?_;rintro e w3 ⟨rfl,hB⟩;have HB3:=Aside0.mk (below_step HBL.out hB);clear hB)
   go_roundw
   case rel=>exact ⟨_,x+1,rfl,rfl,by omega,by omega,HB3,HL2⟩
   case measure=>simp[intOf];omega
  ·have HE1:Aside0 (valsK (q0++⟨#[40]⟩) t.f1=sb):=⟨by rw[HL.out,List.drop_eq_nil_of_le (by omega)];rfl⟩
   have x2:=blk_cell (blk_below HX2.out HBL.out) 2
   simp at x2
   clear HL
   rw[HE1.out]at HS
   have HB9:=Aside0.mk (below_step HB2.out HBL.out)
   have HX9:=Aside0.mk (blk_below HX2.out HBL.out)
   go_wp2
   clear x2 HBL HB2 HX2
   generalize wr=w9 at *
   go_loopw [3,28] (fun sv i w' =>∃(s2:ByteArray) (y:Int),sv= .string s2∧i= .int .i64 y∧0≤y∧y≤t.f2.length∧Aside0 (Below w9.heap.size w9 w')∧Aside0 (keysK T sb t.f2=keysK T s2 (t.f2.drop y.toNat))) (fun _ i _=>t.f2.length-(intOf i).toNat)
   case atStart=>exact ⟨sb,0,rfl,rfl,Int.le_refl _,Int.natCast_nonneg _,⟨Below.refl _ _⟩,⟨rfl⟩⟩
   case round =>
    obtain ⟨s2,y,rfl,rfl,hy,hyk,HBL,HL⟩:=hrel
    by_cases hyl:y<t.f2.length
    ·obtain ⟨ad,B1,d1,B2,d2,e,hx0,hx1,hx2,hl1',hi1,hl2',hi2⟩:=at_T30 TV.out.k y hy hyl
     cases e
     have hBq:=below_step HB9.out HBL.out
     replace hx0:=(hBq.cell (World.block_lt_of_cell? w _ hx0)).trans hx0
     replace hx1:=(hBq.cell (World.block_lt_of_cell? w _ hx1)).trans hx1
     replace hx2:=(hBq.cell (World.block_lt_of_cell? w _ hx2)).trans hx2
     have p2:=eq_true hy
     have q2:=eq_true hyl
     have hdr:=drop_rd t.f2 y hy hyl
     have HL2:Aside0 (keysK T sb t.f2=keysK T (s2++keyP T (rd_T30 t.f2 y)) (t.f2.drop (y+1).toNat)):=⟨by rw[HL.out,hdr,keysK]⟩
     have hsz:(s2++keyP T (rd_T30 t.f2 y)).size≤1099511627776:=by
      have h2:=keysK_size T (t.f2.drop (y+1).toNat) (s2++keyP T (rd_T30 t.f2 y))
      rw[←HL2.out]at h2
      have:=HS.out
      omega
     have hku:(keyP T (rd_T30 t.f2 y)).size≤1099511627776:=by rw[ByteArray.size_append]at hsz;omega
     have HBa:=Aside0.mk (below_alloc hBq (.cells #[.string (rd_T30 t.f2 y).f0,.slice B1 (rd_T30 t.f2 y).f1.length d1,.slice B2 (rd_T30 t.f2 y).f2.length d2] 30))
     have C2:=Aside0.mk (HI.out (rd_T30 t.f2 y) B1 d1 B2 d2 _ (rd_mem t.f2 y hy hyl) HBa.out ⟨hl1',Kd.C_below hi1 HBa.out,hl2',Kd.C_below hi2 HBa.out⟩ hku)
     generalize keyP T (rd_T30 t.f2 y)=ku at *
     generalize rd_T30 t.f2 y=u at *
     have hz2:(9223372036854775807<s2.size+ku.size)=False:=eq_false (by rw[ByteArray.size_append]at hsz;omega)
     have HBw:=Aside0.mk (below_alloc HBL.out (.cells #[.string u.f0,.slice B1 u.f1.length d1,.slice B2 u.f2.length d2] 30))
     clear hdr hsz HL hBq hku hl1' hl2' hi1 hi2
     go_wp2_with (go_at_call 99;refine C2.out.mono ?_;rintro e w3 ⟨rfl,hB⟩;have HB3:=Aside0.mk (below_step HBw.out hB);clear hB)
     go_roundw
     case rel=>exact ⟨_,y+1,rfl,rfl,by omega,by omega,HB3,HL2⟩
     case measure=>simp[intOf];omega
    ·have HE:Aside0 (keysK T sb t.f2=s2):=⟨by rw[HL.out,List.drop_eq_nil_of_le (by omega),keysK]⟩
     have HB3:=Aside0.mk (below_step HB9.out HBL.out)
     have hz3:(9223372036854775807<s2.size+1)=False:=eq_false (by have:=HS.out;rw[HE.out]at this;omega)
     clear HL
     go_wp2
     go_ret
     rw[HE1.out,HE.out]
     exact ⟨rfl,HB3.out⟩
mutual
/-- The values are times. -/
def VOk:S30→Prop
 |⟨_,vs,ks⟩=>(∀v∈vs,0≤v∧v≤9223372036854775807)∧VOkL ks
def VOkL:List S30→Prop
 | []=>True
 |t::r=>VOk t∧VOkL r
end
theorem VOk.eq (t:S30):VOk t↔(∀v∈t.f1,0≤v∧v≤9223372036854775807)∧VOkL t.f2:=by cases t;simp[VOk]
theorem VOkL.mem:∀{l:List S30},VOkL l→∀{x},x∈l→VOk x
 |t::r,h,x,hx=>by
  rw[VOkL]at h
  rcases List.mem_cons.1 hx with rfl | hx
  ·exact h.1
  ·exact VOkL.mem h.2 hx
mutual
theorem formed_vals:∀(t:S30) (cat:ByteArray),formedP structL t cat=true→VOk t
 |⟨f,vs,ks⟩,cat,h=>by
  rw[VOk]
  cases hc:isCat cat with
  |false =>
   rw[formedP_leaf hc]at h
   simp only[Bool.and_eq_true,decide_eq_true_eq]at h
   obtain rfl:=List.length_eq_zero_iff.1 h.1
   obtain rfl:=List.length_eq_zero_iff.1 h.2
   exact ⟨by simp,trivial⟩
  |true =>
   rw[formedP_cat hc]at h
   cases hg:fnOf structL f with
   |none=>rw[hg]at h;cases h
   |some g =>
    rw[hg]at h
    simp only[Bool.and_eq_true]at h
    refine ⟨fun v hv=> ?_,formed_valsL ks g.f1 h.2.2⟩
    have:=List.all_eq_true.1 h.2.1 v hv
    unfold valOk at this
    simp only[Bool.and_eq_true,decide_eq_true_eq]at this
    exact ⟨this.1,by omega⟩
theorem formed_valsL:∀(l:List S30) (cs:List ByteArray),formedL structL l cs=true→VOkL l
 | [],_,_=>trivial
 |t::r,cs,h=>by
  rw[formedL,Bool.and_eq_true]at h
  exact ⟨formed_vals t _ h.1,formed_valsL r _ h.2⟩
end
theorem nodes_mem {t x:S30} (hx:x∈t.f2):nodes x<nodes t:=by
 have hm:∀(l:List S30),x∈l→nodes x≤nodesL l:=by
  intro l hx
  induction l with
  |nil=>cases hx
  |cons y r ih =>
   simp only[nodesL]
   rcases List.mem_cons.1 hx with rfl | hx
   ·omega
   ·have:=ih hx;omega
 have:=hm _ hx
 rw[nodes_eq t]
 omega
theorem key_aux (T:Lib.PrintTabs):∀(n:Nat) (t:S30),nodes t≤n→Sm t→VOk t→∀(w:World) (A1:Option Addr) (c1:Nat) (A2:Option Addr) (c2:Nat),Tabs T w→TreeV w t A1 c1 A2 c2→(keyP T t).size≤1099511627776 →
  Calls Tryz.prog 99 #[.agg #[.string t.f0,.slice A1 t.f1.length c1,.slice A2 t.f2.length c2]] w fun e w' =>e= .returned (.string (keyP T t))∧Below w.heap.size w w'
 |0,t,hn,_,_=>absurd hn (by have:=nodes_eq t;omega)
 |n+1,t,hn,hs,hv=>fun w A1 c1 A2 c2 hT tv hk=>by
  have h:=(Sm.eq t).1 hs
  have h2:=(VOk.eq t).1 hv
  exact key_step T t w hT h.1 h2.1 hk A1 c1 A2 c2 tv h.2.1 h.2.2.1 (fun x B1 d1 B2 d2 W hx hW hxv hxk=>key_aux T n x (by have:=nodes_mem hx;omega) (SmL.mem h.2.2.2 hx) (VOkL.mem h2.2 hx) W B1 d1 B2 d2 (hT.below hW) hxv hxk)
theorem key_calls (T:Lib.PrintTabs) (t:S30) (hs:Sm t) (hv:VOk t) (w:World) (A1:Option Addr) (c1:Nat) (A2:Option Addr) (c2:Nat) (hT:Tabs T w) (tv:TreeV w t A1 c1 A2 c2) (hk:(keyP T t).size≤1099511627776) :
  Calls Tryz.prog 99 #[.agg #[.string t.f0,.slice A1 t.f1.length c1,.slice A2 t.f2.length c2]] w fun e w' =>e= .returned (.string (keyP T t))∧Below w.heap.size w w' :=
 key_aux T (nodes t) t (Nat.le_refl _) hs hv w A1 c1 A2 c2 hT tv hk
end Go.Proofs.YtcfjomnihhdpaaaGreatDoor.A
