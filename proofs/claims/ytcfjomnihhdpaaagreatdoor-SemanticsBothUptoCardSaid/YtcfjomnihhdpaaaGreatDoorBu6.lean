/-
  A part of the proof: Q3, Q4.
-/
import Derived.Test.YtcfjomnihhdpaaaGreatDoorBu5
namespace Go.Proofs.YtcfjomnihhdpaaaGreatDoor.A
open Go.RowKit Go.Proofs.YtcfjomnihhdpaaaGreatDoorW.PrintWords Go.Proofs.YtcfjomnihhdpaaaGreatDoorW.PrintLast Go.Proofs.YtcfjomnihhdpaaaGreatDoorW.PrintMore
set_option linter.unusedVariables false
set_option linter.unusedSimpArgs false
section
attribute [local go_sem] Oper.semAt_some
theorem frT {w W:World} {ok:Nat→Prop} {P:World→Prop} (h:Fr w ok P) (hB:Below w.heap.size w W):Fr W (fun _=>True) P:=(h.below hB).mono (fun _ _ _=>trivial)
theorem TmAt.frT {w:World} {b:Nat} {x:Tm} (h:TmAt w b x):Fr w (fun _=>True) fun W=>TmAt W b x:=fun W hW=>by
 unfold TmAt at h ⊢
 exact (hW.block b trivial (blk_lt h)).trans h
section
variable {ops:Array Oper} {R:Act→World→Prop} {RP:World→Prop} {i:Nat} {o:Oper} {J:Act→World→Prop} {a:Act} {w:World}
theorem op_app {k1 k2 k3 k4:Tmp} {ts:Array TypeId} {bp:Nat} {t:S30} {A1 A2:Option Addr} {c1 c2:Nat} {depth:Int} {v4:Value} {f:Prd} {F:Int→Prd→Option S70} {B:Nat} (hi:ops[i]? =some o) (hg:o.guard=none) (ho:o.op= .call {callee:= .value (.func 133),args:= #[.tmp k1,.tmp k2,.tmp k3,.tmp k4],argTypes:=ts})
  (h1:a.tmps[k1]?.getD undef= .pointer (some ⟨bp,0,none⟩)) (h2:a.tmps[k2]?.getD undef= .agg #[.string t.f0,.slice A1 t.f1.length c1,.slice A2 t.f2.length c2]) (h3:a.tmps[k3]?.getD undef= .int .i64 depth) (h4:a.tmps[k4]?.getD undef=v4) (hv:(Kn.fn (some f)).In v4 w) (hF:ApplyC bp t F w) (g1:(Kd.int .i64).C w A1 t.f1.length t.f1) (l1:t.f1.length≤c1) (g2:k30.C w A2 t.f2.length t.f2) (l2:t.f2.length≤c2) (had:a.defers=[]) (hp:F depth f=none→∀w',Below w.heap.size w w' →RP w') (hB:B≤w.heap.size)
  (h:∀v w',(Kn.mn B (F depth f)).In v w' →Below w.heap.size w w' →J (a.put o.dst v) w'):wpOp Tryz.prog ops (OnNP R RP) i J a w:=by
 obtain ⟨f',hf,hv⟩:=hv
 obtain rfl:=Option.some.inj hf
 refine op_pm hi hg ?_ (hF A1 c1 A2 c2 g1 l1 g2 l2 depth v4 f hv) had hp hB h
 have he:=enters_of Tryz.func133 (by kernel_rfl) rfl #[.pointer (some ⟨bp,0,none⟩),.agg #[.string t.f0,.slice A1 t.f1.length c1,.slice A2 t.f2.length c2],.int .i64 depth,v4] w
 unfold execOp
 rw[ho]
 go_simp
end
set_option maxHeartbeats 2000000 in
set_option maxRecDepth 100000 in
theorem clo82 {w:World} {ok:Nat→Prop} {bp mb Bb Bt:Nat} {s:Sg} {t:S30} {A1:Option Addr} {c1:Nat} {A2:Option Addr} {c2:Nat} (hb:Fr w ok fun W=>Bld W bp mb s) (hbb:Fr w ok fun W=>BoxAt W Bb 73 (.pointer (some ⟨bp,0,none⟩))) (ht:Fr w ok fun W=>TreeAt W Bt t A1 c1 A2 c2) (hk:0<t.f2.length):
  PrdV w ok (.func (.func 82) #[] #[.pointer (some ⟨Bb,0,none⟩),.pointer (some ⟨Bt,0,none⟩)]) (fun depth x=>atomP s.ps (rd_T30 t.f2 0).f0 depth [x]):=by
 refine ⟨82,_,rfl,enters_of Tryz.func82 (by kernel_rfl) rfl,fun W hW depth x=> ?_⟩
 replace hb:=hb.ext hW
 replace hbb:=hbb.ext hW
 replace ht:=ht.ext hW
 obtain ⟨ad,B1,d1,B2,d2,e,y0,y1,y2,hl1,hi1,hl2,hi2⟩:=at_T30 ht.now.k 0 (by omega) (by omega)
 subst e
 refine clo_gen Tryz.func82 (n:=16) (a:=5) (b:=6) (show Tryz.f82.body=some _ from rfl) rfl rfl rfl rfl rfl rfl rfl (by decide) (by decide) (fun j=>match j with | 0=> .int .i64 depth | 1=>tmV x | 2=> .pointer (some ⟨Bb,0,none⟩) | 3=> .pointer (some ⟨Bt,0,none⟩) | _=>undef) (by kernel_rfl) x rfl W (atomP s.ps (rd_T30 t.f2 0).f0 depth [x]) fun W2 hW2 hx hz hsz=> ?_
 have b2:∀{w},Below W2.drew.heap.size W2.drew w→Below W2.heap.size W2 w:=fun hB=>below_step (below_drew (Below.refl _ _)) hB
 have bw:∀{w},Below W2.drew.heap.size W2.drew w→Below W.heap.size W w:=fun hB=>below_step hW2 (b2 hB)
 have bs:∀{w},Below W2.drew.heap.size W2.drew w→W.heap.size+2≤w.heap.size:=fun hB=>by
  have h2:=(b2 hB).size
  omega
 refine region_kn 9 16 [.is (.pointer (some ⟨bp,0,none⟩)),.is (.pointer (some ⟨Bt,2,none⟩)),.is (.slice (some ad) t.f2.length c2),.is (.pointer (some (ad.add ((0:Int).toNat*3)))),.is (.agg #[.string (rd_T30 t.f2 0).f0,.slice B1 (rd_T30 t.f2 0).f1.length d1,.slice B2 (rd_T30 t.f2 0).f2.length d2]),.is (.int .i64 depth),.is (tmV x),.tms [x],.mn (W.heap.size+2) (atomP s.ps (rd_T30 t.f2 0).f0 depth [x])] [7,8,9,10,11,12,13,14,15,999] _ W2 rfl (by kernel_rfl) (by kernel_rfl) (by kernel_rfl) ⟨
  fun q w J hB hq h hi=>op_ld73 hi rfl rfl rfl (hbb.below (bw hB)).now (h _ _ rfl (.refl _ _)),
  fun q w J hB hq h hi=>op_fa (c:=2) hi rfl rfl rfl (h _ _ rfl (.refl _ _)),
  fun q w J hB hq h hi=>op_ld28 hi rfl rfl (hq 1 rfl) (blk_cell (ht.below (bw hB)).now.blk 2) (h _ _ rfl (.refl _ _)),
  fun q w J hB hq h hi=>op_ix hi rfl rfl (eq_true (by decide)) (eq_true (by omega)) (hq 2 rfl) (h _ _ rfl (.refl _ _)),
  fun q w J hB hq h hi=>op_ldT hi rfl rfl (hq 3 rfl) (pw_cell_below (bw hB) y0) (pw_cell_below (bw hB) y1) (pw_cell_below (bw hB) y2) (h _ _ rfl (.refl _ _)),
  fun q w J hB hq h hi=>op_mv hi rfl rfl rfl (h _ _ rfl (.refl _ _)),
  fun q w J hB hq h hi=>op_ld79 hi rfl rfl rfl (hx.below (b2 hB)) (h _ _ rfl (.refl _ _)),
  fun q w J hB hq h hi=>op_tms1 hi rfl rfl (hq 6 rfl) h,
  fun q w J hB hq h hi=>op_atom hi rfl rfl (hq 0 rfl) (hq 4 rfl) (hq 5 rfl) rfl (hq 7 rfl) (by simp) (hb.below (bw hB)).now rfl (fun e w' b=>⟨by rw[e],below_step (bw hB) b⟩) (bs hB) h,trivial⟩ ?_
 intro o q w hi hB hx2
 injection hi with hi2
 subst hi2
 exact op_st70 rfl rfl rfl rfl rfl rfl (blk_below hz (b2 hB)) (hx2 8 (by decide)) (Nat.lt_succ_self _) fun m w' e hm hb=>⟨rfl,rfl,(bw hB).trans (hb _ (Nat.le_succ _)),m,e,hm⟩
set_option maxHeartbeats 2000000 in
set_option maxRecDepth 100000 in
theorem clo130 {w:World} {ok:Nat→Prop} {bp mb Bb Bt:Nat} {s:Sg} {t:S30} {A1:Option Addr} {c1:Nat} {A2:Option Addr} {c2:Nat} (hb:Fr w ok fun W=>Bld W bp mb s) (hbb:Fr w ok fun W=>BoxAt W Bb 73 (.pointer (some ⟨bp,0,none⟩))) (ht:Fr w ok fun W=>TreeAt W Bt t A1 c1 A2 c2) (hk:0<t.f2.length):
  PrdV w ok (.func (.func 130) #[] #[.pointer (some ⟨Bb,0,none⟩),.pointer (some ⟨Bt,0,none⟩)]) (fun depth x=>atomP s.ps (rd_T30 t.f2 0).f0 depth [x]):=by
 refine ⟨130,_,rfl,enters_of Tryz.func130 (by kernel_rfl) rfl,fun W hW depth x=> ?_⟩
 replace hb:=hb.ext hW
 replace hbb:=hbb.ext hW
 replace ht:=ht.ext hW
 obtain ⟨ad,B1,d1,B2,d2,e,y0,y1,y2,hl1,hi1,hl2,hi2⟩:=at_T30 ht.now.k 0 (by omega) (by omega)
 subst e
 refine clo_gen Tryz.func130 (n:=16) (a:=5) (b:=6) (show Tryz.f130.body=some _ from rfl) rfl rfl rfl rfl rfl rfl rfl (by decide) (by decide) (fun j=>match j with | 0=> .int .i64 depth | 1=>tmV x | 2=> .pointer (some ⟨Bb,0,none⟩) | 3=> .pointer (some ⟨Bt,0,none⟩) | _=>undef) (by kernel_rfl) x rfl W (atomP s.ps (rd_T30 t.f2 0).f0 depth [x]) fun W2 hW2 hx hz hsz=> ?_
 have b2:∀{w},Below W2.drew.heap.size W2.drew w→Below W2.heap.size W2 w:=fun hB=>below_step (below_drew (Below.refl _ _)) hB
 have bw:∀{w},Below W2.drew.heap.size W2.drew w→Below W.heap.size W w:=fun hB=>below_step hW2 (b2 hB)
 have bs:∀{w},Below W2.drew.heap.size W2.drew w→W.heap.size+2≤w.heap.size:=fun hB=>by
  have h2:=(b2 hB).size
  omega
 refine region_kn 9 16 [.is (.pointer (some ⟨bp,0,none⟩)),.is (.pointer (some ⟨Bt,2,none⟩)),.is (.slice (some ad) t.f2.length c2),.is (.pointer (some (ad.add ((0:Int).toNat*3)))),.is (.agg #[.string (rd_T30 t.f2 0).f0,.slice B1 (rd_T30 t.f2 0).f1.length d1,.slice B2 (rd_T30 t.f2 0).f2.length d2]),.is (.int .i64 depth),.is (tmV x),.tms [x],.mn (W.heap.size+2) (atomP s.ps (rd_T30 t.f2 0).f0 depth [x])] [7,8,9,10,11,12,13,14,15,999] _ W2 rfl (by kernel_rfl) (by kernel_rfl) (by kernel_rfl) ⟨
  fun q w J hB hq h hi=>op_ld73 hi rfl rfl rfl (hbb.below (bw hB)).now (h _ _ rfl (.refl _ _)),
  fun q w J hB hq h hi=>op_fa (c:=2) hi rfl rfl rfl (h _ _ rfl (.refl _ _)),
  fun q w J hB hq h hi=>op_ld28 hi rfl rfl (hq 1 rfl) (blk_cell (ht.below (bw hB)).now.blk 2) (h _ _ rfl (.refl _ _)),
  fun q w J hB hq h hi=>op_ix hi rfl rfl (eq_true (by decide)) (eq_true (by omega)) (hq 2 rfl) (h _ _ rfl (.refl _ _)),
  fun q w J hB hq h hi=>op_ldT hi rfl rfl (hq 3 rfl) (pw_cell_below (bw hB) y0) (pw_cell_below (bw hB) y1) (pw_cell_below (bw hB) y2) (h _ _ rfl (.refl _ _)),
  fun q w J hB hq h hi=>op_mv hi rfl rfl rfl (h _ _ rfl (.refl _ _)),
  fun q w J hB hq h hi=>op_ld79 hi rfl rfl rfl (hx.below (b2 hB)) (h _ _ rfl (.refl _ _)),
  fun q w J hB hq h hi=>op_tms1 hi rfl rfl (hq 6 rfl) h,
  fun q w J hB hq h hi=>op_atom hi rfl rfl (hq 0 rfl) (hq 4 rfl) (hq 5 rfl) rfl (hq 7 rfl) (by simp) (hb.below (bw hB)).now rfl (fun e w' b=>⟨by rw[e],below_step (bw hB) b⟩) (bs hB) h,trivial⟩ ?_
 intro o q w hi hB hx2
 injection hi with hi2
 subst hi2
 exact op_st70 rfl rfl rfl rfl rfl rfl (blk_below hz (b2 hB)) (hx2 8 (by decide)) (Nat.lt_succ_self _) fun m w' e hm hb=>⟨rfl,rfl,(bw hB).trans (hb _ (Nat.le_succ _)),m,e,hm⟩
set_option maxHeartbeats 2000000 in
set_option maxRecDepth 100000 in
theorem clo131 {w:World} {ok:Nat→Prop} {bp mb Bb Bt:Nat} {s:Sg} {t:S30} {A1:Option Addr} {c1:Nat} {A2:Option Addr} {c2:Nat} {Bn:Nat} {n:Tm} (hb:Fr w ok fun W=>Bld W bp mb s) (hbb:Fr w ok fun W=>BoxAt W Bb 73 (.pointer (some ⟨bp,0,none⟩))) (ht:Fr w ok fun W=>TreeAt W Bt t A1 c1 A2 c2) (hk:0<t.f2.length) (hn:Fr w ok fun W=>TmAt W Bn n):
  PrdV w ok (.func (.func 131) #[] #[.pointer (some ⟨Bb,0,none⟩),.pointer (some ⟨Bt,0,none⟩),.pointer (some ⟨Bn,0,none⟩)]) (fun depth x=>atomP s.ps (rd_T30 t.f2 0).f0 depth [x,n]):=by
 refine ⟨131,_,rfl,enters_of Tryz.func131 (by kernel_rfl) rfl,fun W hW depth x=> ?_⟩
 replace hb:=hb.ext hW
 replace hbb:=hbb.ext hW
 replace ht:=ht.ext hW
 replace hn:=hn.ext hW
 obtain ⟨ad,B1,d1,B2,d2,e,y0,y1,y2,hl1,hi1,hl2,hi2⟩:=at_T30 ht.now.k 0 (by omega) (by omega)
 subst e
 refine clo_gen Tryz.func131 (n:=18) (a:=6) (b:=7) (show Tryz.f131.body=some _ from rfl) rfl rfl rfl rfl rfl rfl rfl (by decide) (by decide) (fun j=>match j with | 0=> .int .i64 depth | 1=>tmV x | 2=> .pointer (some ⟨Bb,0,none⟩) | 3=> .pointer (some ⟨Bt,0,none⟩) | 4=> .pointer (some ⟨Bn,0,none⟩) | _=>undef) (by kernel_rfl) x rfl W (atomP s.ps (rd_T30 t.f2 0).f0 depth [x,n]) fun W2 hW2 hx hz hsz=> ?_
 have b2:∀{w},Below W2.drew.heap.size W2.drew w→Below W2.heap.size W2 w:=fun hB=>below_step (below_drew (Below.refl _ _)) hB
 have bw:∀{w},Below W2.drew.heap.size W2.drew w→Below W.heap.size W w:=fun hB=>below_step hW2 (b2 hB)
 have bs:∀{w},Below W2.drew.heap.size W2.drew w→W.heap.size+2≤w.heap.size:=fun hB=>by
  have h2:=(b2 hB).size
  omega
 refine region_kn 10 18 [.is (.pointer (some ⟨bp,0,none⟩)),.is (.pointer (some ⟨Bt,2,none⟩)),.is (.slice (some ad) t.f2.length c2),.is (.pointer (some (ad.add ((0:Int).toNat*3)))),.is (.agg #[.string (rd_T30 t.f2 0).f0,.slice B1 (rd_T30 t.f2 0).f1.length d1,.slice B2 (rd_T30 t.f2 0).f2.length d2]),.is (.int .i64 depth),.is (tmV x),.is (tmV n),.tms [x,n],.mn (W.heap.size+2) (atomP s.ps (rd_T30 t.f2 0).f0 depth [x,n])] [8,9,10,11,12,13,14,15,16,17,999] _ W2 rfl (by kernel_rfl) (by kernel_rfl) (by kernel_rfl) ⟨
  fun q w J hB hq h hi=>op_ld73 hi rfl rfl rfl (hbb.below (bw hB)).now (h _ _ rfl (.refl _ _)),
  fun q w J hB hq h hi=>op_fa (c:=2) hi rfl rfl rfl (h _ _ rfl (.refl _ _)),
  fun q w J hB hq h hi=>op_ld28 hi rfl rfl (hq 1 rfl) (blk_cell (ht.below (bw hB)).now.blk 2) (h _ _ rfl (.refl _ _)),
  fun q w J hB hq h hi=>op_ix hi rfl rfl (eq_true (by decide)) (eq_true (by omega)) (hq 2 rfl) (h _ _ rfl (.refl _ _)),
  fun q w J hB hq h hi=>op_ldT hi rfl rfl (hq 3 rfl) (pw_cell_below (bw hB) y0) (pw_cell_below (bw hB) y1) (pw_cell_below (bw hB) y2) (h _ _ rfl (.refl _ _)),
  fun q w J hB hq h hi=>op_mv hi rfl rfl rfl (h _ _ rfl (.refl _ _)),
  fun q w J hB hq h hi=>op_ld79 hi rfl rfl rfl (hx.below (b2 hB)) (h _ _ rfl (.refl _ _)),
  fun q w J hB hq h hi=>op_ld79 hi rfl rfl rfl (hn.below (bw hB)).now (h _ _ rfl (.refl _ _)),
  fun q w J hB hq h hi=>op_tms2 hi rfl rfl (hq 6 rfl) (hq 7 rfl) h,
  fun q w J hB hq h hi=>op_atom hi rfl rfl (hq 0 rfl) (hq 4 rfl) (hq 5 rfl) rfl (hq 8 rfl) (by simp) (hb.below (bw hB)).now rfl (fun e w' b=>⟨by rw[e],below_step (bw hB) b⟩) (bs hB) h,trivial⟩ ?_
 intro o q w hi hB hx2
 injection hi with hi2
 subst hi2
 exact op_st70 rfl rfl rfl rfl rfl rfl (blk_below hz (b2 hB)) (hx2 9 (by decide)) (Nat.lt_succ_self _) fun m w' e hm hb=>⟨rfl,rfl,(bw hB).trans (hb _ (Nat.le_succ _)),m,e,hm⟩
set_option maxHeartbeats 2000000 in
set_option maxRecDepth 100000 in
theorem clo134 {w:World} {ok:Nat→Prop} {bp mb Bb Bt:Nat} {s:Sg} {t:S30} {A1:Option Addr} {c1:Nat} {A2:Option Addr} {c2:Nat} {Bu:Nat} {u:Tm} (hb:Fr w ok fun W=>Bld W bp mb s) (hbb:Fr w ok fun W=>BoxAt W Bb 73 (.pointer (some ⟨bp,0,none⟩))) (ht:Fr w ok fun W=>TreeAt W Bt t A1 c1 A2 c2) (hk:0<t.f2.length) (hu:Fr w ok fun W=>TmAt W Bu u):
  PrdV w ok (.func (.func 134) #[] #[.pointer (some ⟨Bb,0,none⟩),.pointer (some ⟨Bt,0,none⟩),.pointer (some ⟨Bu,0,none⟩)]) (fun depth x=>atomP s.ps (rd_T30 t.f2 0).f0 depth [u,x]):=by
 refine ⟨134,_,rfl,enters_of Tryz.func134 (by kernel_rfl) rfl,fun W hW depth x=> ?_⟩
 replace hb:=hb.ext hW
 replace hbb:=hbb.ext hW
 replace ht:=ht.ext hW
 replace hu:=hu.ext hW
 obtain ⟨ad,B1,d1,B2,d2,e,y0,y1,y2,hl1,hi1,hl2,hi2⟩:=at_T30 ht.now.k 0 (by omega) (by omega)
 subst e
 refine clo_gen Tryz.func134 (n:=18) (a:=6) (b:=7) (show Tryz.f134.body=some _ from rfl) rfl rfl rfl rfl rfl rfl rfl (by decide) (by decide) (fun j=>match j with | 0=> .int .i64 depth | 1=>tmV x | 2=> .pointer (some ⟨Bb,0,none⟩) | 3=> .pointer (some ⟨Bt,0,none⟩) | 4=> .pointer (some ⟨Bu,0,none⟩) | _=>undef) (by kernel_rfl) x rfl W (atomP s.ps (rd_T30 t.f2 0).f0 depth [u,x]) fun W2 hW2 hx hz hsz=> ?_
 have b2:∀{w},Below W2.drew.heap.size W2.drew w→Below W2.heap.size W2 w:=fun hB=>below_step (below_drew (Below.refl _ _)) hB
 have bw:∀{w},Below W2.drew.heap.size W2.drew w→Below W.heap.size W w:=fun hB=>below_step hW2 (b2 hB)
 have bs:∀{w},Below W2.drew.heap.size W2.drew w→W.heap.size+2≤w.heap.size:=fun hB=>by
  have h2:=(b2 hB).size
  omega
 refine region_kn 10 18 [.is (.pointer (some ⟨bp,0,none⟩)),.is (.pointer (some ⟨Bt,2,none⟩)),.is (.slice (some ad) t.f2.length c2),.is (.pointer (some (ad.add ((0:Int).toNat*3)))),.is (.agg #[.string (rd_T30 t.f2 0).f0,.slice B1 (rd_T30 t.f2 0).f1.length d1,.slice B2 (rd_T30 t.f2 0).f2.length d2]),.is (.int .i64 depth),.is (tmV u),.is (tmV x),.tms [u,x],.mn (W.heap.size+2) (atomP s.ps (rd_T30 t.f2 0).f0 depth [u,x])] [8,9,10,11,12,13,14,15,16,17,999] _ W2 rfl (by kernel_rfl) (by kernel_rfl) (by kernel_rfl) ⟨
  fun q w J hB hq h hi=>op_ld73 hi rfl rfl rfl (hbb.below (bw hB)).now (h _ _ rfl (.refl _ _)),
  fun q w J hB hq h hi=>op_fa (c:=2) hi rfl rfl rfl (h _ _ rfl (.refl _ _)),
  fun q w J hB hq h hi=>op_ld28 hi rfl rfl (hq 1 rfl) (blk_cell (ht.below (bw hB)).now.blk 2) (h _ _ rfl (.refl _ _)),
  fun q w J hB hq h hi=>op_ix hi rfl rfl (eq_true (by decide)) (eq_true (by omega)) (hq 2 rfl) (h _ _ rfl (.refl _ _)),
  fun q w J hB hq h hi=>op_ldT hi rfl rfl (hq 3 rfl) (pw_cell_below (bw hB) y0) (pw_cell_below (bw hB) y1) (pw_cell_below (bw hB) y2) (h _ _ rfl (.refl _ _)),
  fun q w J hB hq h hi=>op_mv hi rfl rfl rfl (h _ _ rfl (.refl _ _)),
  fun q w J hB hq h hi=>op_ld79 hi rfl rfl rfl (hu.below (bw hB)).now (h _ _ rfl (.refl _ _)),
  fun q w J hB hq h hi=>op_ld79 hi rfl rfl rfl (hx.below (b2 hB)) (h _ _ rfl (.refl _ _)),
  fun q w J hB hq h hi=>op_tms2 hi rfl rfl (hq 6 rfl) (hq 7 rfl) h,
  fun q w J hB hq h hi=>op_atom hi rfl rfl (hq 0 rfl) (hq 4 rfl) (hq 5 rfl) rfl (hq 8 rfl) (by simp) (hb.below (bw hB)).now rfl (fun e w' b=>⟨by rw[e],below_step (bw hB) b⟩) (bs hB) h,trivial⟩ ?_
 intro o q w hi hB hx2
 injection hi with hi2
 subst hi2
 exact op_st70 rfl rfl rfl rfl rfl rfl (blk_below hz (b2 hB)) (hx2 9 (by decide)) (Nat.lt_succ_self _) fun m w' e hm hb=>⟨rfl,rfl,(bw hB).trans (hb _ (Nat.le_succ _)),m,e,hm⟩
set_option maxHeartbeats 2000000 in
set_option maxRecDepth 100000 in
theorem clo137 {w:World} {ok:Nat→Prop} {bp mb Bb Bt:Nat} {s:Sg} {t:S30} {A1:Option Addr} {c1:Nat} {A2:Option Addr} {c2:Nat} {Bu:Nat} {Bv:Nat} {u:Tm} {v:Tm} (hb:Fr w ok fun W=>Bld W bp mb s) (hbb:Fr w ok fun W=>BoxAt W Bb 73 (.pointer (some ⟨bp,0,none⟩))) (ht:Fr w ok fun W=>TreeAt W Bt t A1 c1 A2 c2) (hk:0<t.f2.length) (hu:Fr w ok fun W=>TmAt W Bu u) (hv:Fr w ok fun W=>TmAt W Bv v):
  PrdV w ok (.func (.func 137) #[] #[.pointer (some ⟨Bb,0,none⟩),.pointer (some ⟨Bt,0,none⟩),.pointer (some ⟨Bu,0,none⟩),.pointer (some ⟨Bv,0,none⟩)]) (fun depth x=>atomP s.ps (rd_T30 t.f2 0).f0 depth [u,v,x]):=by
 refine ⟨137,_,rfl,enters_of Tryz.func137 (by kernel_rfl) rfl,fun W hW depth x=> ?_⟩
 replace hb:=hb.ext hW
 replace hbb:=hbb.ext hW
 replace ht:=ht.ext hW
 replace hu:=hu.ext hW
 replace hv:=hv.ext hW
 obtain ⟨ad,B1,d1,B2,d2,e,y0,y1,y2,hl1,hi1,hl2,hi2⟩:=at_T30 ht.now.k 0 (by omega) (by omega)
 subst e
 refine clo_gen Tryz.func137 (n:=20) (a:=7) (b:=8) (show Tryz.f137.body=some _ from rfl) rfl rfl rfl rfl rfl rfl rfl (by decide) (by decide) (fun j=>match j with | 0=> .int .i64 depth | 1=>tmV x | 2=> .pointer (some ⟨Bb,0,none⟩) | 3=> .pointer (some ⟨Bt,0,none⟩) | 4=> .pointer (some ⟨Bu,0,none⟩) | 5=> .pointer (some ⟨Bv,0,none⟩) | _=>undef) (by kernel_rfl) x rfl W (atomP s.ps (rd_T30 t.f2 0).f0 depth [u,v,x]) fun W2 hW2 hx hz hsz=> ?_
 have b2:∀{w},Below W2.drew.heap.size W2.drew w→Below W2.heap.size W2 w:=fun hB=>below_step (below_drew (Below.refl _ _)) hB
 have bw:∀{w},Below W2.drew.heap.size W2.drew w→Below W.heap.size W w:=fun hB=>below_step hW2 (b2 hB)
 have bs:∀{w},Below W2.drew.heap.size W2.drew w→W.heap.size+2≤w.heap.size:=fun hB=>by
  have h2:=(b2 hB).size
  omega
 refine region_kn 11 20 [.is (.pointer (some ⟨bp,0,none⟩)),.is (.pointer (some ⟨Bt,2,none⟩)),.is (.slice (some ad) t.f2.length c2),.is (.pointer (some (ad.add ((0:Int).toNat*3)))),.is (.agg #[.string (rd_T30 t.f2 0).f0,.slice B1 (rd_T30 t.f2 0).f1.length d1,.slice B2 (rd_T30 t.f2 0).f2.length d2]),.is (.int .i64 depth),.is (tmV u),.is (tmV v),.is (tmV x),.tms [u,v,x],.mn (W.heap.size+2) (atomP s.ps (rd_T30 t.f2 0).f0 depth [u,v,x])] [9,10,11,12,13,14,15,16,17,18,19,999] _ W2 rfl (by kernel_rfl) (by kernel_rfl) (by kernel_rfl) ⟨
  fun q w J hB hq h hi=>op_ld73 hi rfl rfl rfl (hbb.below (bw hB)).now (h _ _ rfl (.refl _ _)),
  fun q w J hB hq h hi=>op_fa (c:=2) hi rfl rfl rfl (h _ _ rfl (.refl _ _)),
  fun q w J hB hq h hi=>op_ld28 hi rfl rfl (hq 1 rfl) (blk_cell (ht.below (bw hB)).now.blk 2) (h _ _ rfl (.refl _ _)),
  fun q w J hB hq h hi=>op_ix hi rfl rfl (eq_true (by decide)) (eq_true (by omega)) (hq 2 rfl) (h _ _ rfl (.refl _ _)),
  fun q w J hB hq h hi=>op_ldT hi rfl rfl (hq 3 rfl) (pw_cell_below (bw hB) y0) (pw_cell_below (bw hB) y1) (pw_cell_below (bw hB) y2) (h _ _ rfl (.refl _ _)),
  fun q w J hB hq h hi=>op_mv hi rfl rfl rfl (h _ _ rfl (.refl _ _)),
  fun q w J hB hq h hi=>op_ld79 hi rfl rfl rfl (hu.below (bw hB)).now (h _ _ rfl (.refl _ _)),
  fun q w J hB hq h hi=>op_ld79 hi rfl rfl rfl (hv.below (bw hB)).now (h _ _ rfl (.refl _ _)),
  fun q w J hB hq h hi=>op_ld79 hi rfl rfl rfl (hx.below (b2 hB)) (h _ _ rfl (.refl _ _)),
  fun q w J hB hq h hi=>op_tms3 hi rfl rfl (hq 6 rfl) (hq 7 rfl) (hq 8 rfl) h,
  fun q w J hB hq h hi=>op_atom hi rfl rfl (hq 0 rfl) (hq 4 rfl) (hq 5 rfl) rfl (hq 9 rfl) (by simp) (hb.below (bw hB)).now rfl (fun e w' b=>⟨by rw[e],below_step (bw hB) b⟩) (bs hB) h,trivial⟩ ?_
 intro o q w hi hB hx2
 injection hi with hi2
 subst hi2
 exact op_st70 rfl rfl rfl rfl rfl rfl (blk_below hz (b2 hB)) (hx2 10 (by decide)) (Nat.lt_succ_self _) fun m w' e hm hb=>⟨rfl,rfl,(bw hB).trans (hb _ (Nat.le_succ _)),m,e,hm⟩
set_option maxHeartbeats 2000000 in
set_option maxRecDepth 100000 in
theorem clo87 {w:World} {ok:Nat→Prop} {bp mb Bb Bt:Nat} {s:Sg} {t:S30} {A1:Option Addr} {c1:Nat} {A2:Option Addr} {c2:Nat} {Bc:Nat} {Bv:Nat} {vc:Value} {c:Prd} (hxc:Fr w ok fun W=>BoxAt W Bc 76 vc) (hc:PrdV w ok vc c) {vv:Value} {v:Prd} (hxv:Fr w ok fun W=>BoxAt W Bv 76 vv) (hv:PrdV w ok vv v):
  PrdV w ok (.func (.func 87) #[] #[.pointer (some ⟨Bc,0,none⟩),.pointer (some ⟨Bv,0,none⟩)]) (fun depth x=>(c depth x).bind fun m1=>(v depth x).bind fun m2=>some (bothP m1 m2)):=by
 refine ⟨87,_,rfl,enters_of Tryz.func87 (by kernel_rfl) rfl,fun W hW depth x=> ?_⟩
 replace hxc:=hxc.ext hW
 replace hc:=hc.ext hW
 replace hxv:=hxv.ext hW
 replace hv:=hv.ext hW
 refine clo_gen Tryz.func87 (n:=16) (a:=5) (b:=6) (show Tryz.f87.body=some _ from rfl) rfl rfl rfl rfl rfl rfl rfl (by decide) (by decide) (fun j=>match j with | 0=> .int .i64 depth | 1=>tmV x | 2=> .pointer (some ⟨Bc,0,none⟩) | 3=> .pointer (some ⟨Bv,0,none⟩) | _=>undef) (by kernel_rfl) x rfl W ((c depth x).bind fun m1=>(v depth x).bind fun m2=>some (bothP m1 m2)) fun W2 hW2 hx hz hsz=> ?_
 have b2:∀{w},Below W2.drew.heap.size W2.drew w→Below W2.heap.size W2 w:=fun hB=>below_step (below_drew (Below.refl _ _)) hB
 have bw:∀{w},Below W2.drew.heap.size W2.drew w→Below W.heap.size W w:=fun hB=>below_step hW2 (b2 hB)
 have bs:∀{w},Below W2.drew.heap.size W2.drew w→W.heap.size+2≤w.heap.size:=fun hB=>by
  have h2:=(b2 hB).size
  omega
 refine region_kn 9 16 [.is vc,.is (.int .i64 depth),.is (tmV x),.mn (W.heap.size+2) (c depth x),.is vv,.is (.int .i64 depth),.is (tmV x),.mn (W.heap.size+2) (v depth x),.mn (W.heap.size+2) ((c depth x).bind fun m1=>(v depth x).bind fun m2=>some (bothP m1 m2))] [7,8,9,10,11,12,13,14,15,999] _ W2 rfl (by kernel_rfl) (by kernel_rfl) (by kernel_rfl) ⟨
  fun q w J hB hq h hi=>op_ld76 hi rfl rfl rfl (hxc.below (bw hB)).now (h _ _ rfl (.refl _ _)),
  fun q w J hB hq h hi=>op_mv hi rfl rfl rfl (h _ _ rfl (.refl _ _)),
  fun q w J hB hq h hi=>op_ld79 hi rfl rfl rfl (hx.below (b2 hB)) (h _ _ rfl (.refl _ _)),
  fun q w J hB hq h hi=>op_say hi rfl rfl (hq 0 rfl) (hq 1 rfl) (hq 2 rfl) (hc.below (bw hB)) rfl (fun e w' b=>⟨by rw[e];rfl,below_step (bw hB) b⟩) (bs hB) h,
  fun q w J hB hq h hi=>op_ld76 hi rfl rfl rfl (hxv.below (bw hB)).now (h _ _ rfl (.refl _ _)),
  fun q w J hB hq h hi=>op_mv hi rfl rfl rfl (h _ _ rfl (.refl _ _)),
  fun q w J hB hq h hi=>op_ld79 hi rfl rfl rfl (hx.below (b2 hB)) (h _ _ rfl (.refl _ _)),
  fun q w J hB hq h hi=>op_say hi rfl rfl (hq 4 rfl) (hq 5 rfl) (hq 6 rfl) (hv.below (bw hB)) rfl (fun e w' b=>⟨by obtain ⟨m3,e3,_⟩:=hq 3 rfl;rw[e3,e];rfl,below_step (bw hB) b⟩) (bs hB) h,
  fun q w J hB hq h hi=>op_both hi rfl rfl rfl rfl (hq 3 rfl) (hq 7 rfl) (bs hB) h,trivial⟩ ?_
 intro o q w hi hB hx2
 injection hi with hi2
 subst hi2
 exact op_st70 rfl rfl rfl rfl rfl rfl (blk_below hz (b2 hB)) (hx2 8 (by decide)) (Nat.lt_succ_self _) fun m w' e hm hb=>⟨rfl,rfl,(bw hB).trans (hb _ (Nat.le_succ _)),m,e,hm⟩
set_option maxHeartbeats 2000000 in
set_option maxRecDepth 100000 in
theorem clo129 {w:World} {ok:Nat→Prop} {bp mb Bb Bt:Nat} {s:Sg} {t:S30} {A1:Option Addr} {c1:Nat} {A2:Option Addr} {c2:Nat} {Bc:Nat} {Bv:Nat} {vc:Value} {c:Prd} (hxc:Fr w ok fun W=>BoxAt W Bc 76 vc) (hc:PrdV w ok vc c) {vv:Value} {v:Prd} (hxv:Fr w ok fun W=>BoxAt W Bv 76 vv) (hv:PrdV w ok vv v):
  PrdV w ok (.func (.func 129) #[] #[.pointer (some ⟨Bc,0,none⟩),.pointer (some ⟨Bv,0,none⟩)]) (fun depth x=>(c depth x).bind fun m1=>(v depth x).bind fun m2=>some (bothP m1 m2)):=by
 refine ⟨129,_,rfl,enters_of Tryz.func129 (by kernel_rfl) rfl,fun W hW depth x=> ?_⟩
 replace hxc:=hxc.ext hW
 replace hc:=hc.ext hW
 replace hxv:=hxv.ext hW
 replace hv:=hv.ext hW
 refine clo_gen Tryz.func129 (n:=16) (a:=5) (b:=6) (show Tryz.f129.body=some _ from rfl) rfl rfl rfl rfl rfl rfl rfl (by decide) (by decide) (fun j=>match j with | 0=> .int .i64 depth | 1=>tmV x | 2=> .pointer (some ⟨Bc,0,none⟩) | 3=> .pointer (some ⟨Bv,0,none⟩) | _=>undef) (by kernel_rfl) x rfl W ((c depth x).bind fun m1=>(v depth x).bind fun m2=>some (bothP m1 m2)) fun W2 hW2 hx hz hsz=> ?_
 have b2:∀{w},Below W2.drew.heap.size W2.drew w→Below W2.heap.size W2 w:=fun hB=>below_step (below_drew (Below.refl _ _)) hB
 have bw:∀{w},Below W2.drew.heap.size W2.drew w→Below W.heap.size W w:=fun hB=>below_step hW2 (b2 hB)
 have bs:∀{w},Below W2.drew.heap.size W2.drew w→W.heap.size+2≤w.heap.size:=fun hB=>by
  have h2:=(b2 hB).size
  omega
 refine region_kn 9 16 [.is vc,.is (.int .i64 depth),.is (tmV x),.mn (W.heap.size+2) (c depth x),.is vv,.is (.int .i64 depth),.is (tmV x),.mn (W.heap.size+2) (v depth x),.mn (W.heap.size+2) ((c depth x).bind fun m1=>(v depth x).bind fun m2=>some (bothP m1 m2))] [7,8,9,10,11,12,13,14,15,999] _ W2 rfl (by kernel_rfl) (by kernel_rfl) (by kernel_rfl) ⟨
  fun q w J hB hq h hi=>op_ld76 hi rfl rfl rfl (hxc.below (bw hB)).now (h _ _ rfl (.refl _ _)),
  fun q w J hB hq h hi=>op_mv hi rfl rfl rfl (h _ _ rfl (.refl _ _)),
  fun q w J hB hq h hi=>op_ld79 hi rfl rfl rfl (hx.below (b2 hB)) (h _ _ rfl (.refl _ _)),
  fun q w J hB hq h hi=>op_say hi rfl rfl (hq 0 rfl) (hq 1 rfl) (hq 2 rfl) (hc.below (bw hB)) rfl (fun e w' b=>⟨by rw[e];rfl,below_step (bw hB) b⟩) (bs hB) h,
  fun q w J hB hq h hi=>op_ld76 hi rfl rfl rfl (hxv.below (bw hB)).now (h _ _ rfl (.refl _ _)),
  fun q w J hB hq h hi=>op_mv hi rfl rfl rfl (h _ _ rfl (.refl _ _)),
  fun q w J hB hq h hi=>op_ld79 hi rfl rfl rfl (hx.below (b2 hB)) (h _ _ rfl (.refl _ _)),
  fun q w J hB hq h hi=>op_say hi rfl rfl (hq 4 rfl) (hq 5 rfl) (hq 6 rfl) (hv.below (bw hB)) rfl (fun e w' b=>⟨by obtain ⟨m3,e3,_⟩:=hq 3 rfl;rw[e3,e];rfl,below_step (bw hB) b⟩) (bs hB) h,
  fun q w J hB hq h hi=>op_both hi rfl rfl rfl rfl (hq 3 rfl) (hq 7 rfl) (bs hB) h,trivial⟩ ?_
 intro o q w hi hB hx2
 injection hi with hi2
 subst hi2
 exact op_st70 rfl rfl rfl rfl rfl rfl (blk_below hz (b2 hB)) (hx2 8 (by decide)) (Nat.lt_succ_self _) fun m w' e hm hb=>⟨rfl,rfl,(bw hB).trans (hb _ (Nat.le_succ _)),m,e,hm⟩
set_option maxHeartbeats 2000000 in
set_option maxRecDepth 100000 in
theorem clo161 {w:World} {ok:Nat→Prop} {bp mb Bb Bt:Nat} {s:Sg} {t:S30} {A1:Option Addr} {c1:Nat} {A2:Option Addr} {c2:Nat} {Bc:Nat} {Bv:Nat} {vc:Value} {c:Prd} (hxc:Fr w ok fun W=>BoxAt W Bc 76 vc) (hc:PrdV w ok vc c) {vv:Value} {v:Prd} (hxv:Fr w ok fun W=>BoxAt W Bv 76 vv) (hv:PrdV w ok vv v):
  PrdV w ok (.func (.func 161) #[] #[.pointer (some ⟨Bc,0,none⟩),.pointer (some ⟨Bv,0,none⟩)]) (fun depth x=>(c depth x).bind fun m1=>(v depth x).bind fun m2=>some (bothP m1 m2)):=by
 refine ⟨161,_,rfl,enters_of Tryz.func161 (by kernel_rfl) rfl,fun W hW depth x=> ?_⟩
 replace hxc:=hxc.ext hW
 replace hc:=hc.ext hW
 replace hxv:=hxv.ext hW
 replace hv:=hv.ext hW
 refine clo_gen Tryz.func161 (n:=16) (a:=5) (b:=6) (show Tryz.f161.body=some _ from rfl) rfl rfl rfl rfl rfl rfl rfl (by decide) (by decide) (fun j=>match j with | 0=> .int .i64 depth | 1=>tmV x | 2=> .pointer (some ⟨Bc,0,none⟩) | 3=> .pointer (some ⟨Bv,0,none⟩) | _=>undef) (by kernel_rfl) x rfl W ((c depth x).bind fun m1=>(v depth x).bind fun m2=>some (bothP m1 m2)) fun W2 hW2 hx hz hsz=> ?_
 have b2:∀{w},Below W2.drew.heap.size W2.drew w→Below W2.heap.size W2 w:=fun hB=>below_step (below_drew (Below.refl _ _)) hB
 have bw:∀{w},Below W2.drew.heap.size W2.drew w→Below W.heap.size W w:=fun hB=>below_step hW2 (b2 hB)
 have bs:∀{w},Below W2.drew.heap.size W2.drew w→W.heap.size+2≤w.heap.size:=fun hB=>by
  have h2:=(b2 hB).size
  omega
 refine region_kn 9 16 [.is vc,.is (.int .i64 depth),.is (tmV x),.mn (W.heap.size+2) (c depth x),.is vv,.is (.int .i64 depth),.is (tmV x),.mn (W.heap.size+2) (v depth x),.mn (W.heap.size+2) ((c depth x).bind fun m1=>(v depth x).bind fun m2=>some (bothP m1 m2))] [7,8,9,10,11,12,13,14,15,999] _ W2 rfl (by kernel_rfl) (by kernel_rfl) (by kernel_rfl) ⟨
  fun q w J hB hq h hi=>op_ld76 hi rfl rfl rfl (hxc.below (bw hB)).now (h _ _ rfl (.refl _ _)),
  fun q w J hB hq h hi=>op_mv hi rfl rfl rfl (h _ _ rfl (.refl _ _)),
  fun q w J hB hq h hi=>op_ld79 hi rfl rfl rfl (hx.below (b2 hB)) (h _ _ rfl (.refl _ _)),
  fun q w J hB hq h hi=>op_say hi rfl rfl (hq 0 rfl) (hq 1 rfl) (hq 2 rfl) (hc.below (bw hB)) rfl (fun e w' b=>⟨by rw[e];rfl,below_step (bw hB) b⟩) (bs hB) h,
  fun q w J hB hq h hi=>op_ld76 hi rfl rfl rfl (hxv.below (bw hB)).now (h _ _ rfl (.refl _ _)),
  fun q w J hB hq h hi=>op_mv hi rfl rfl rfl (h _ _ rfl (.refl _ _)),
  fun q w J hB hq h hi=>op_ld79 hi rfl rfl rfl (hx.below (b2 hB)) (h _ _ rfl (.refl _ _)),
  fun q w J hB hq h hi=>op_say hi rfl rfl (hq 4 rfl) (hq 5 rfl) (hq 6 rfl) (hv.below (bw hB)) rfl (fun e w' b=>⟨by obtain ⟨m3,e3,_⟩:=hq 3 rfl;rw[e3,e];rfl,below_step (bw hB) b⟩) (bs hB) h,
  fun q w J hB hq h hi=>op_both hi rfl rfl rfl rfl (hq 3 rfl) (hq 7 rfl) (bs hB) h,trivial⟩ ?_
 intro o q w hi hB hx2
 injection hi with hi2
 subst hi2
 exact op_st70 rfl rfl rfl rfl rfl rfl (blk_below hz (b2 hB)) (hx2 8 (by decide)) (Nat.lt_succ_self _) fun m w' e hm hb=>⟨rfl,rfl,(bw hB).trans (hb _ (Nat.le_succ _)),m,e,hm⟩
set_option maxHeartbeats 2000000 in
set_option maxRecDepth 100000 in
theorem clo84 {w:World} {ok:Nat→Prop} {bp mb Bb Bt:Nat} {s:Sg} {t:S30} {A1:Option Addr} {c1:Nat} {A2:Option Addr} {c2:Nat} {Bc:Nat} (hb:Fr w ok fun W=>Bld W bp mb s) (hbb:Fr w ok fun W=>BoxAt W Bb 73 (.pointer (some ⟨bp,0,none⟩))) (ht:Fr w ok fun W=>TreeAt W Bt t A1 c1 A2 c2) (hk:0<t.f2.length) {vc:Value} {c:Prd} (hxc:Fr w ok fun W=>BoxAt W Bc 76 vc) (hc:PrdV w ok vc c):
  PrdV w ok (.func (.func 84) #[] #[.pointer (some ⟨Bb,0,none⟩),.pointer (some ⟨Bt,0,none⟩),.pointer (some ⟨Bc,0,none⟩)]) (fun depth x=>(atomP s.ps (rd_T30 t.f2 0).f0 depth [x]).bind fun m1=>(c depth x).bind fun m2=>some (bothP m1 m2)):=by
 refine ⟨84,_,rfl,enters_of Tryz.func84 (by kernel_rfl) rfl,fun W hW depth x=> ?_⟩
 replace hb:=hb.ext hW
 replace hbb:=hbb.ext hW
 replace ht:=ht.ext hW
 replace hxc:=hxc.ext hW
 replace hc:=hc.ext hW
 obtain ⟨ad,B1,d1,B2,d2,e,y0,y1,y2,hl1,hi1,hl2,hi2⟩:=at_T30 ht.now.k 0 (by omega) (by omega)
 subst e
 refine clo_gen Tryz.func84 (n:=22) (a:=6) (b:=7) (show Tryz.f84.body=some _ from rfl) rfl rfl rfl rfl rfl rfl rfl (by decide) (by decide) (fun j=>match j with | 0=> .int .i64 depth | 1=>tmV x | 2=> .pointer (some ⟨Bb,0,none⟩) | 3=> .pointer (some ⟨Bt,0,none⟩) | 4=> .pointer (some ⟨Bc,0,none⟩) | _=>undef) (by kernel_rfl) x rfl W ((atomP s.ps (rd_T30 t.f2 0).f0 depth [x]).bind fun m1=>(c depth x).bind fun m2=>some (bothP m1 m2)) fun W2 hW2 hx hz hsz=> ?_
 have b2:∀{w},Below W2.drew.heap.size W2.drew w→Below W2.heap.size W2 w:=fun hB=>below_step (below_drew (Below.refl _ _)) hB
 have bw:∀{w},Below W2.drew.heap.size W2.drew w→Below W.heap.size W w:=fun hB=>below_step hW2 (b2 hB)
 have bs:∀{w},Below W2.drew.heap.size W2.drew w→W.heap.size+2≤w.heap.size:=fun hB=>by
  have h2:=(b2 hB).size
  omega
 refine region_kn 14 22 [.is (.pointer (some ⟨bp,0,none⟩)),.is (.pointer (some ⟨Bt,2,none⟩)),.is (.slice (some ad) t.f2.length c2),.is (.pointer (some (ad.add ((0:Int).toNat*3)))),.is (.agg #[.string (rd_T30 t.f2 0).f0,.slice B1 (rd_T30 t.f2 0).f1.length d1,.slice B2 (rd_T30 t.f2 0).f2.length d2]),.is (.int .i64 depth),.is (tmV x),.tms [x],.mn (W.heap.size+2) (atomP s.ps (rd_T30 t.f2 0).f0 depth [x]),.is vc,.is (.int .i64 depth),.is (tmV x),.mn (W.heap.size+2) (c depth x),.mn (W.heap.size+2) ((atomP s.ps (rd_T30 t.f2 0).f0 depth [x]).bind fun m1=>(c depth x).bind fun m2=>some (bothP m1 m2))] [8,9,10,11,12,13,14,15,16,17,18,19,20,21,999] _ W2 rfl (by kernel_rfl) (by kernel_rfl) (by kernel_rfl) ⟨
  fun q w J hB hq h hi=>op_ld73 hi rfl rfl rfl (hbb.below (bw hB)).now (h _ _ rfl (.refl _ _)),
  fun q w J hB hq h hi=>op_fa (c:=2) hi rfl rfl rfl (h _ _ rfl (.refl _ _)),
  fun q w J hB hq h hi=>op_ld28 hi rfl rfl (hq 1 rfl) (blk_cell (ht.below (bw hB)).now.blk 2) (h _ _ rfl (.refl _ _)),
  fun q w J hB hq h hi=>op_ix hi rfl rfl (eq_true (by decide)) (eq_true (by omega)) (hq 2 rfl) (h _ _ rfl (.refl _ _)),
  fun q w J hB hq h hi=>op_ldT hi rfl rfl (hq 3 rfl) (pw_cell_below (bw hB) y0) (pw_cell_below (bw hB) y1) (pw_cell_below (bw hB) y2) (h _ _ rfl (.refl _ _)),
  fun q w J hB hq h hi=>op_mv hi rfl rfl rfl (h _ _ rfl (.refl _ _)),
  fun q w J hB hq h hi=>op_ld79 hi rfl rfl rfl (hx.below (b2 hB)) (h _ _ rfl (.refl _ _)),
  fun q w J hB hq h hi=>op_tms1 hi rfl rfl (hq 6 rfl) h,
  fun q w J hB hq h hi=>op_atom hi rfl rfl (hq 0 rfl) (hq 4 rfl) (hq 5 rfl) rfl (hq 7 rfl) (by simp) (hb.below (bw hB)).now rfl (fun e w' b=>⟨by rw[e];rfl,below_step (bw hB) b⟩) (bs hB) h,
  fun q w J hB hq h hi=>op_ld76 hi rfl rfl rfl (hxc.below (bw hB)).now (h _ _ rfl (.refl _ _)),
  fun q w J hB hq h hi=>op_mv hi rfl rfl rfl (h _ _ rfl (.refl _ _)),
  fun q w J hB hq h hi=>op_ld79 hi rfl rfl rfl (hx.below (b2 hB)) (h _ _ rfl (.refl _ _)),
  fun q w J hB hq h hi=>op_say hi rfl rfl (hq 9 rfl) (hq 10 rfl) (hq 11 rfl) (hc.below (bw hB)) rfl (fun e w' b=>⟨by obtain ⟨m8,e8,_⟩:=hq 8 rfl;rw[e8,e];rfl,below_step (bw hB) b⟩) (bs hB) h,
  fun q w J hB hq h hi=>op_both hi rfl rfl rfl rfl (hq 8 rfl) (hq 12 rfl) (bs hB) h,trivial⟩ ?_
 intro o q w hi hB hx2
 injection hi with hi2
 subst hi2
 exact op_st70 rfl rfl rfl rfl rfl rfl (blk_below hz (b2 hB)) (hx2 13 (by decide)) (Nat.lt_succ_self _) fun m w' e hm hb=>⟨rfl,rfl,(bw hB).trans (hb _ (Nat.le_succ _)),m,e,hm⟩
set_option maxHeartbeats 2000000 in
set_option maxRecDepth 100000 in
theorem clo164 {w:World} {ok:Nat→Prop} {bp mb Bb Bt:Nat} {s:Sg} {t:S30} {A1:Option Addr} {c1:Nat} {A2:Option Addr} {c2:Nat} {Bc:Nat} {Bv:Nat} {vc:Value} {c:Prd} (hxc:Fr w ok fun W=>BoxAt W Bc 76 vc) (hc:PrdV w ok vc c) {vv:Value} {v:Prd} (hxv:Fr w ok fun W=>BoxAt W Bv 76 vv) (hv:PrdV w ok vv v):
  PrdV w ok (.func (.func 164) #[] #[.pointer (some ⟨Bc,0,none⟩),.pointer (some ⟨Bv,0,none⟩)]) (fun depth x=>(c depth x).bind fun m1=>(v depth x).bind fun m2=>some (nodeP 7 ⟨#[]⟩ 0 0 [m1,m2])):=by
 refine ⟨164,_,rfl,enters_of Tryz.func164 (by kernel_rfl) rfl,fun W hW depth x=> ?_⟩
 replace hxc:=hxc.ext hW
 replace hc:=hc.ext hW
 replace hxv:=hxv.ext hW
 replace hv:=hv.ext hW
 refine clo_gen Tryz.func164 (n:=18) (a:=5) (b:=6) (show Tryz.f164.body=some _ from rfl) rfl rfl rfl rfl rfl rfl rfl (by decide) (by decide) (fun j=>match j with | 0=> .int .i64 depth | 1=>tmV x | 2=> .pointer (some ⟨Bc,0,none⟩) | 3=> .pointer (some ⟨Bv,0,none⟩) | _=>undef) (by kernel_rfl) x rfl W ((c depth x).bind fun m1=>(v depth x).bind fun m2=>some (nodeP 7 ⟨#[]⟩ 0 0 [m1,m2])) fun W2 hW2 hx hz hsz=> ?_
 have b2:∀{w},Below W2.drew.heap.size W2.drew w→Below W2.heap.size W2 w:=fun hB=>below_step (below_drew (Below.refl _ _)) hB
 have bw:∀{w},Below W2.drew.heap.size W2.drew w→Below W.heap.size W w:=fun hB=>below_step hW2 (b2 hB)
 have bs:∀{w},Below W2.drew.heap.size W2.drew w→W.heap.size+2≤w.heap.size:=fun hB=>by
  have h2:=(b2 hB).size
  omega
 refine region_kn 11 18 [.is (.agg #[.int .i64 7,.string ⟨#[]⟩,.slice none 0 0,.int .i64 0,.int .i64 0,.slice none 0 0]),.is vc,.is (.int .i64 depth),.is (tmV x),.mn (W.heap.size+2) (c depth x),.is vv,.is (.int .i64 depth),.is (tmV x),.mn (W.heap.size+2) (v depth x),.mns (W.heap.size+2) ((c depth x).bind fun m1=>(v depth x).bind fun m2=>some [m1,m2]),.mn (W.heap.size+2) (((c depth x).bind fun m1=>(v depth x).bind fun m2=>some [m1,m2]).map (nodeP 7 ⟨#[]⟩ 0 0))] [7,8,9,10,11,12,13,14,15,16,17,999] _ W2 rfl (by kernel_rfl) (by kernel_rfl) (by kernel_rfl) ⟨
  fun q w J hB hq h hi=>op_f37 hi rfl rfl (h _ _ rfl (.refl _ _)),
  fun q w J hB hq h hi=>op_ld76 hi rfl rfl rfl (hxc.below (bw hB)).now (h _ _ rfl (.refl _ _)),
  fun q w J hB hq h hi=>op_mv hi rfl rfl rfl (h _ _ rfl (.refl _ _)),
  fun q w J hB hq h hi=>op_ld79 hi rfl rfl rfl (hx.below (b2 hB)) (h _ _ rfl (.refl _ _)),
  fun q w J hB hq h hi=>op_say hi rfl rfl (hq 1 rfl) (hq 2 rfl) (hq 3 rfl) (hc.below (bw hB)) rfl (fun e w' b=>⟨by rw[e];rfl,below_step (bw hB) b⟩) (bs hB) h,
  fun q w J hB hq h hi=>op_ld76 hi rfl rfl rfl (hxv.below (bw hB)).now (h _ _ rfl (.refl _ _)),
  fun q w J hB hq h hi=>op_mv hi rfl rfl rfl (h _ _ rfl (.refl _ _)),
  fun q w J hB hq h hi=>op_ld79 hi rfl rfl rfl (hx.below (b2 hB)) (h _ _ rfl (.refl _ _)),
  fun q w J hB hq h hi=>op_say hi rfl rfl (hq 5 rfl) (hq 6 rfl) (hq 7 rfl) (hv.below (bw hB)) rfl (fun e w' b=>⟨by obtain ⟨m4,e4,_⟩:=hq 4 rfl;rw[e4,e];rfl,below_step (bw hB) b⟩) (bs hB) h,
  fun q w J hB hq h hi=>op_mns2 hi rfl rfl rfl rfl (hq 4 rfl) (hq 8 rfl) (bs hB) h,
  fun q w J hB hq h hi=>op_node hi rfl rfl (hq 0 rfl) rfl (hq 9 rfl) (bs hB) h,trivial⟩ ?_
 intro o q w hi hB hx2
 injection hi with hi2
 subst hi2
 exact op_st70 rfl rfl rfl rfl rfl rfl (blk_below hz (b2 hB)) (hx2 10 (by decide)) (Nat.lt_succ_self _) fun m w' e hm hb=>⟨rfl,rfl,(bw hB).trans (hb _ (Nat.le_succ _)),m,(by revert e;cases c depth x<;>cases v depth x<;>exact id),hm⟩
set_option maxHeartbeats 2000000 in
set_option maxRecDepth 100000 in
theorem clo162 {w:World} {ok:Nat→Prop} {bp mb Bb Bt:Nat} {s:Sg} {t:S30} {A1:Option Addr} {c1:Nat} {A2:Option Addr} {c2:Nat} {Bc:Nat} {Bv:Nat} {vc:Value} {c:Prd} (hxc:Fr w ok fun W=>BoxAt W Bc 76 vc) (hc:PrdV w ok vc c) {vv:Value} {v:Prd} (hxv:Fr w ok fun W=>BoxAt W Bv 76 vv) (hv:PrdV w ok vv v):
  PrdV w ok (.func (.func 162) #[] #[.pointer (some ⟨Bc,0,none⟩),.pointer (some ⟨Bv,0,none⟩)]) (fun depth x=>(c depth x).bind fun m1=>(v depth x).bind fun m2=>some (nodeP 7 ⟨#[]⟩ 0 0 [m1,notP m2])):=by
 refine ⟨162,_,rfl,enters_of Tryz.func162 (by kernel_rfl) rfl,fun W hW depth x=> ?_⟩
 replace hxc:=hxc.ext hW
 replace hc:=hc.ext hW
 replace hxv:=hxv.ext hW
 replace hv:=hv.ext hW
 refine clo_gen Tryz.func162 (n:=19) (a:=5) (b:=6) (show Tryz.f162.body=some _ from rfl) rfl rfl rfl rfl rfl rfl rfl (by decide) (by decide) (fun j=>match j with | 0=> .int .i64 depth | 1=>tmV x | 2=> .pointer (some ⟨Bc,0,none⟩) | 3=> .pointer (some ⟨Bv,0,none⟩) | _=>undef) (by kernel_rfl) x rfl W ((c depth x).bind fun m1=>(v depth x).bind fun m2=>some (nodeP 7 ⟨#[]⟩ 0 0 [m1,notP m2])) fun W2 hW2 hx hz hsz=> ?_
 have b2:∀{w},Below W2.drew.heap.size W2.drew w→Below W2.heap.size W2 w:=fun hB=>below_step (below_drew (Below.refl _ _)) hB
 have bw:∀{w},Below W2.drew.heap.size W2.drew w→Below W.heap.size W w:=fun hB=>below_step hW2 (b2 hB)
 have bs:∀{w},Below W2.drew.heap.size W2.drew w→W.heap.size+2≤w.heap.size:=fun hB=>by
  have h2:=(b2 hB).size
  omega
 refine region_kn 12 19 [.is (.agg #[.int .i64 7,.string ⟨#[]⟩,.slice none 0 0,.int .i64 0,.int .i64 0,.slice none 0 0]),.is vc,.is (.int .i64 depth),.is (tmV x),.mn (W.heap.size+2) (c depth x),.is vv,.is (.int .i64 depth),.is (tmV x),.mn (W.heap.size+2) (v depth x),.mn (W.heap.size+2) ((v depth x).map notP),.mns (W.heap.size+2) ((c depth x).bind fun m1=>((v depth x).map notP).bind fun m2=>some [m1,m2]),.mn (W.heap.size+2) (((c depth x).bind fun m1=>((v depth x).map notP).bind fun m2=>some [m1,m2]).map (nodeP 7 ⟨#[]⟩ 0 0))] [7,8,9,10,11,12,13,14,15,16,17,18,999] _ W2 rfl (by kernel_rfl) (by kernel_rfl) (by kernel_rfl) ⟨
  fun q w J hB hq h hi=>op_f37 hi rfl rfl (h _ _ rfl (.refl _ _)),
  fun q w J hB hq h hi=>op_ld76 hi rfl rfl rfl (hxc.below (bw hB)).now (h _ _ rfl (.refl _ _)),
  fun q w J hB hq h hi=>op_mv hi rfl rfl rfl (h _ _ rfl (.refl _ _)),
  fun q w J hB hq h hi=>op_ld79 hi rfl rfl rfl (hx.below (b2 hB)) (h _ _ rfl (.refl _ _)),
  fun q w J hB hq h hi=>op_say hi rfl rfl (hq 1 rfl) (hq 2 rfl) (hq 3 rfl) (hc.below (bw hB)) rfl (fun e w' b=>⟨by rw[e];rfl,below_step (bw hB) b⟩) (bs hB) h,
  fun q w J hB hq h hi=>op_ld76 hi rfl rfl rfl (hxv.below (bw hB)).now (h _ _ rfl (.refl _ _)),
  fun q w J hB hq h hi=>op_mv hi rfl rfl rfl (h _ _ rfl (.refl _ _)),
  fun q w J hB hq h hi=>op_ld79 hi rfl rfl rfl (hx.below (b2 hB)) (h _ _ rfl (.refl _ _)),
  fun q w J hB hq h hi=>op_say hi rfl rfl (hq 5 rfl) (hq 6 rfl) (hq 7 rfl) (hv.below (bw hB)) rfl (fun e w' b=>⟨by obtain ⟨m4,e4,_⟩:=hq 4 rfl;rw[e4,e];rfl,below_step (bw hB) b⟩) (bs hB) h,
  fun q w J hB hq h hi=>op_not hi rfl rfl rfl (hq 8 rfl) (bs hB) h,
  fun q w J hB hq h hi=>op_mns2 hi rfl rfl rfl rfl (hq 4 rfl) (hq 9 rfl) (bs hB) h,
  fun q w J hB hq h hi=>op_node hi rfl rfl (hq 0 rfl) rfl (hq 10 rfl) (bs hB) h,trivial⟩ ?_
 intro o q w hi hB hx2
 injection hi with hi2
 subst hi2
 exact op_st70 rfl rfl rfl rfl rfl rfl (blk_below hz (b2 hB)) (hx2 11 (by decide)) (Nat.lt_succ_self _) fun m w' e hm hb=>⟨rfl,rfl,(bw hB).trans (hb _ (Nat.le_succ _)),m,(by revert e;cases c depth x<;>cases v depth x<;>exact id),hm⟩
set_option maxHeartbeats 2000000 in
set_option maxRecDepth 100000 in
theorem clo163 {w:World} {ok:Nat→Prop} {bp mb Bb Bt:Nat} {s:Sg} {t:S30} {A1:Option Addr} {c1:Nat} {A2:Option Addr} {c2:Nat} {Bc:Nat} {Bd:Nat} {Bv:Nat} {vc:Value} {c:Prd} (hxc:Fr w ok fun W=>BoxAt W Bc 76 vc) (hc:PrdV w ok vc c) {vd:Value} {d:Prd} (hxd:Fr w ok fun W=>BoxAt W Bd 76 vd) (hd:PrdV w ok vd d) {vv:Value} {v:Prd} (hxv:Fr w ok fun W=>BoxAt W Bv 76 vv) (hv:PrdV w ok vv v):
  PrdV w ok (.func (.func 163) #[] #[.pointer (some ⟨Bc,0,none⟩),.pointer (some ⟨Bd,0,none⟩),.pointer (some ⟨Bv,0,none⟩)]) (fun depth x=>(c depth x).bind fun m1=>(d depth x).bind fun m2=>(v depth x).bind fun m5=>some (nodeP 7 ⟨#[]⟩ 0 0 [bothP m1 (notP m2),m5])):=by
 refine ⟨163,_,rfl,enters_of Tryz.func163 (by kernel_rfl) rfl,fun W hW depth x=> ?_⟩
 replace hxc:=hxc.ext hW
 replace hc:=hc.ext hW
 replace hxd:=hxd.ext hW
 replace hd:=hd.ext hW
 replace hxv:=hxv.ext hW
 replace hv:=hv.ext hW
 refine clo_gen Tryz.func163 (n:=25) (a:=6) (b:=7) (show Tryz.f163.body=some _ from rfl) rfl rfl rfl rfl rfl rfl rfl (by decide) (by decide) (fun j=>match j with | 0=> .int .i64 depth | 1=>tmV x | 2=> .pointer (some ⟨Bc,0,none⟩) | 3=> .pointer (some ⟨Bd,0,none⟩) | 4=> .pointer (some ⟨Bv,0,none⟩) | _=>undef) (by kernel_rfl) x rfl W ((c depth x).bind fun m1=>(d depth x).bind fun m2=>(v depth x).bind fun m5=>some (nodeP 7 ⟨#[]⟩ 0 0 [bothP m1 (notP m2),m5])) fun W2 hW2 hx hz hsz=> ?_
 have b2:∀{w},Below W2.drew.heap.size W2.drew w→Below W2.heap.size W2 w:=fun hB=>below_step (below_drew (Below.refl _ _)) hB
 have bw:∀{w},Below W2.drew.heap.size W2.drew w→Below W.heap.size W w:=fun hB=>below_step hW2 (b2 hB)
 have bs:∀{w},Below W2.drew.heap.size W2.drew w→W.heap.size+2≤w.heap.size:=fun hB=>by
  have h2:=(b2 hB).size
  omega
 refine region_kn 17 25 [.is (.agg #[.int .i64 7,.string ⟨#[]⟩,.slice none 0 0,.int .i64 0,.int .i64 0,.slice none 0 0]),.is vc,.is (.int .i64 depth),.is (tmV x),.mn (W.heap.size+2) (c depth x),.is vd,.is (.int .i64 depth),.is (tmV x),.mn (W.heap.size+2) (d depth x),.mn (W.heap.size+2) ((d depth x).map notP),.mn (W.heap.size+2) ((c depth x).bind fun m1=>((d depth x).map notP).bind fun m2=>some (bothP m1 m2)),.is vv,.is (.int .i64 depth),.is (tmV x),.mn (W.heap.size+2) (v depth x),.mns (W.heap.size+2) (((c depth x).bind fun m1=>((d depth x).map notP).bind fun m2=>some (bothP m1 m2)).bind fun m1=>(v depth x).bind fun m2=>some [m1,m2]),.mn (W.heap.size+2) ((((c depth x).bind fun m1=>((d depth x).map notP).bind fun m2=>some (bothP m1 m2)).bind fun m1=>(v depth x).bind fun m2=>some [m1,m2]).map (nodeP 7 ⟨#[]⟩ 0 0))] [8,9,10,11,12,13,14,15,16,17,18,19,20,21,22,23,24,999] _ W2 rfl (by kernel_rfl) (by kernel_rfl) (by kernel_rfl) ⟨
  fun q w J hB hq h hi=>op_f37 hi rfl rfl (h _ _ rfl (.refl _ _)),
  fun q w J hB hq h hi=>op_ld76 hi rfl rfl rfl (hxc.below (bw hB)).now (h _ _ rfl (.refl _ _)),
  fun q w J hB hq h hi=>op_mv hi rfl rfl rfl (h _ _ rfl (.refl _ _)),
  fun q w J hB hq h hi=>op_ld79 hi rfl rfl rfl (hx.below (b2 hB)) (h _ _ rfl (.refl _ _)),
  fun q w J hB hq h hi=>op_say hi rfl rfl (hq 1 rfl) (hq 2 rfl) (hq 3 rfl) (hc.below (bw hB)) rfl (fun e w' b=>⟨by rw[e];rfl,below_step (bw hB) b⟩) (bs hB) h,
  fun q w J hB hq h hi=>op_ld76 hi rfl rfl rfl (hxd.below (bw hB)).now (h _ _ rfl (.refl _ _)),
  fun q w J hB hq h hi=>op_mv hi rfl rfl rfl (h _ _ rfl (.refl _ _)),
  fun q w J hB hq h hi=>op_ld79 hi rfl rfl rfl (hx.below (b2 hB)) (h _ _ rfl (.refl _ _)),
  fun q w J hB hq h hi=>op_say hi rfl rfl (hq 5 rfl) (hq 6 rfl) (hq 7 rfl) (hd.below (bw hB)) rfl (fun e w' b=>⟨by obtain ⟨m4,e4,_⟩:=hq 4 rfl;rw[e4,e];rfl,below_step (bw hB) b⟩) (bs hB) h,
  fun q w J hB hq h hi=>op_not hi rfl rfl rfl (hq 8 rfl) (bs hB) h,
  fun q w J hB hq h hi=>op_both hi rfl rfl rfl rfl (hq 4 rfl) (hq 9 rfl) (bs hB) h,
  fun q w J hB hq h hi=>op_ld76 hi rfl rfl rfl (hxv.below (bw hB)).now (h _ _ rfl (.refl _ _)),
  fun q w J hB hq h hi=>op_mv hi rfl rfl rfl (h _ _ rfl (.refl _ _)),
  fun q w J hB hq h hi=>op_ld79 hi rfl rfl rfl (hx.below (b2 hB)) (h _ _ rfl (.refl _ _)),
  fun q w J hB hq h hi=>op_say hi rfl rfl (hq 11 rfl) (hq 12 rfl) (hq 13 rfl) (hv.below (bw hB)) rfl (fun e w' b=>⟨by obtain ⟨m10,e10,_⟩:=hq 10 rfl;obtain ⟨p10,f10,e10⟩:=Option.bind_eq_some_iff.1 e10;obtain ⟨p210,g10,_⟩:=Option.bind_eq_some_iff.1 e10;obtain ⟨p310,g10,_⟩:=Option.map_eq_some_iff.1 g10;rw[f10,g10,e];rfl,below_step (bw hB) b⟩) (bs hB) h,
  fun q w J hB hq h hi=>op_mns2 hi rfl rfl rfl rfl (hq 10 rfl) (hq 14 rfl) (bs hB) h,
  fun q w J hB hq h hi=>op_node hi rfl rfl (hq 0 rfl) rfl (hq 15 rfl) (bs hB) h,trivial⟩ ?_
 intro o q w hi hB hx2
 injection hi with hi2
 subst hi2
 exact op_st70 rfl rfl rfl rfl rfl rfl (blk_below hz (b2 hB)) (hx2 16 (by decide)) (Nat.lt_succ_self _) fun m w' e hm hb=>⟨rfl,rfl,(bw hB).trans (hb _ (Nat.le_succ _)),m,(by revert e;cases c depth x<;>cases d depth x<;>cases v depth x<;>exact id),hm⟩
set_option maxHeartbeats 2000000 in
set_option maxRecDepth 100000 in
theorem clo132 {w:World} {ok:Nat→Prop} {bp mb Bb Bt:Nat} {s:Sg} {t:S30} {A1:Option Addr} {c1:Nat} {A2:Option Addr} {c2:Nat} (hb:Fr w ok fun W=>Bld W bp mb s) (hbb:Fr w ok fun W=>BoxAt W Bb 73 (.pointer (some ⟨bp,0,none⟩))) (ht:Fr w ok fun W=>TreeAt W Bt t A1 c1 A2 c2) (hk:1<t.f2.length) {F:Int→Prd→Option S70} (hF:Fr w ok (ApplyC bp (rd_T30 t.f2 1) F)):
  PrdV w ok (.func (.func 132) #[] #[.pointer (some ⟨Bb,0,none⟩),.pointer (some ⟨Bt,0,none⟩)]) (fun depth x=>F depth (fun d y=>atomP s.ps (rd_T30 t.f2 0).f0 d [x,y])):=by
 refine ⟨132,_,rfl,enters_of Tryz.func132 (by kernel_rfl) rfl,fun W hW depth x=> ?_⟩
 replace hb:=hb.ext hW
 replace hbb:=hbb.ext hW
 replace ht:=ht.ext hW
 replace hF:=hF.ext hW
 obtain ⟨ad,B1,d1,B2,d2,e,y0,y1,y2,hl1,hi1,hl2,hi2⟩:=at_T30 ht.now.k 1 (by omega) (by omega)
 subst e
 refine clo_gen Tryz.func132 (n:=15) (a:=5) (b:=6) (show Tryz.f132.body=some _ from rfl) rfl rfl rfl rfl rfl rfl rfl (by decide) (by decide) (fun j=>match j with | 0=> .int .i64 depth | 1=>tmV x | 2=> .pointer (some ⟨Bb,0,none⟩) | 3=> .pointer (some ⟨Bt,0,none⟩) | _=>undef) (by kernel_rfl) x rfl W (F depth (fun d y=>atomP s.ps (rd_T30 t.f2 0).f0 d [x,y])) fun W2 hW2 hx hz hsz=> ?_
 have b2:∀{w},Below W2.drew.heap.size W2.drew w→Below W2.heap.size W2 w:=fun hB=>below_step (below_drew (Below.refl _ _)) hB
 have bw:∀{w},Below W2.drew.heap.size W2.drew w→Below W.heap.size W w:=fun hB=>below_step hW2 (b2 hB)
 have bs:∀{w},Below W2.drew.heap.size W2.drew w→W.heap.size+2≤w.heap.size:=fun hB=>by
  have h2:=(b2 hB).size
  omega
 refine region_kn 8 15 [.is (.pointer (some ⟨bp,0,none⟩)),.is (.pointer (some ⟨Bt,2,none⟩)),.is (.slice (some ad) t.f2.length c2),.is (.pointer (some (ad.add ((1:Int).toNat*3)))),.is (.agg #[.string (rd_T30 t.f2 1).f0,.slice B1 (rd_T30 t.f2 1).f1.length d1,.slice B2 (rd_T30 t.f2 1).f2.length d2]),.is (.int .i64 depth),.fn (some (fun d y=>atomP s.ps (rd_T30 t.f2 0).f0 d [x,y])),.mn (W.heap.size+2) (F depth (fun d y=>atomP s.ps (rd_T30 t.f2 0).f0 d [x,y]))] [7,8,9,10,11,12,13,14,999] _ W2 rfl (by kernel_rfl) (by kernel_rfl) (by kernel_rfl) ⟨
  fun q w J hB hq h hi=>op_ld73 hi rfl rfl rfl (hbb.below (bw hB)).now (h _ _ rfl (.refl _ _)),
  fun q w J hB hq h hi=>op_fa (c:=2) hi rfl rfl rfl (h _ _ rfl (.refl _ _)),
  fun q w J hB hq h hi=>op_ld28 hi rfl rfl (hq 1 rfl) (blk_cell (ht.below (bw hB)).now.blk 2) (h _ _ rfl (.refl _ _)),
  fun q w J hB hq h hi=>op_ix hi rfl rfl (eq_true (by decide)) (eq_true (by omega)) (hq 2 rfl) (h _ _ rfl (.refl _ _)),
  fun q w J hB hq h hi=>op_ldT hi rfl rfl (hq 3 rfl) (pw_cell_below (bw hB) y0) (pw_cell_below (bw hB) y1) (pw_cell_below (bw hB) y2) (h _ _ rfl (.refl _ _)),
  fun q w J hB hq h hi=>op_mv hi rfl rfl rfl (h _ _ rfl (.refl _ _)),
  fun q w J hB hq h hi=>op_mf (vs:= #[.pointer (some ⟨Bb,0,none⟩),.pointer (some ⟨Bt,0,none⟩),.pointer (some ⟨W.heap.size,0,none⟩)]) hi rfl rfl (by kernel_rfl) (h _ _ ⟨_,rfl,PrdV.mono (clo134 (ok:=fun _=>True) (frT hb (bw hB)) (frT hbb (bw hB)) (frT ht (bw hB)) (by omega) (TmAt.frT (hx.below (b2 hB)))) (fun _ _ _=>trivial)⟩ (.refl _ _)),
  fun q w J hB hq h hi=>op_app hi rfl rfl (hq 0 rfl) (hq 4 rfl) (hq 5 rfl) rfl (hq 6 rfl) (hF.below (bw hB)).now (Kd.C_below hi1 (bw hB)) hl1 (Kd.C_below hi2 (bw hB)) hl2 rfl (fun e w' b=>⟨e,below_step (bw hB) b⟩) (bs hB) h,trivial⟩ ?_
 intro o q w hi hB hx2
 injection hi with hi2
 subst hi2
 exact op_st70 rfl rfl rfl rfl rfl rfl (blk_below hz (b2 hB)) (hx2 7 (by decide)) (Nat.lt_succ_self _) fun m w' e hm hb=>⟨rfl,rfl,(bw hB).trans (hb _ (Nat.le_succ _)),m,e,hm⟩
set_option maxHeartbeats 2000000 in
set_option maxRecDepth 100000 in
theorem clo136 {w:World} {ok:Nat→Prop} {bp mb Bb Bt:Nat} {s:Sg} {t:S30} {A1:Option Addr} {c1:Nat} {A2:Option Addr} {c2:Nat} {Bu:Nat} {u:Tm} (hb:Fr w ok fun W=>Bld W bp mb s) (hbb:Fr w ok fun W=>BoxAt W Bb 73 (.pointer (some ⟨bp,0,none⟩))) (ht:Fr w ok fun W=>TreeAt W Bt t A1 c1 A2 c2) (hk:2<t.f2.length) (hu:Fr w ok fun W=>TmAt W Bu u) {F:Int→Prd→Option S70} (hF:Fr w ok (ApplyC bp (rd_T30 t.f2 2) F)):
  PrdV w ok (.func (.func 136) #[] #[.pointer (some ⟨Bb,0,none⟩),.pointer (some ⟨Bt,0,none⟩),.pointer (some ⟨Bu,0,none⟩)]) (fun depth x=>F depth (fun d y=>atomP s.ps (rd_T30 t.f2 0).f0 d [u,x,y])):=by
 refine ⟨136,_,rfl,enters_of Tryz.func136 (by kernel_rfl) rfl,fun W hW depth x=> ?_⟩
 replace hb:=hb.ext hW
 replace hbb:=hbb.ext hW
 replace ht:=ht.ext hW
 replace hu:=hu.ext hW
 replace hF:=hF.ext hW
 obtain ⟨ad,B1,d1,B2,d2,e,y0,y1,y2,hl1,hi1,hl2,hi2⟩:=at_T30 ht.now.k 2 (by omega) (by omega)
 subst e
 refine clo_gen Tryz.func136 (n:=16) (a:=6) (b:=7) (show Tryz.f136.body=some _ from rfl) rfl rfl rfl rfl rfl rfl rfl (by decide) (by decide) (fun j=>match j with | 0=> .int .i64 depth | 1=>tmV x | 2=> .pointer (some ⟨Bb,0,none⟩) | 3=> .pointer (some ⟨Bt,0,none⟩) | 4=> .pointer (some ⟨Bu,0,none⟩) | _=>undef) (by kernel_rfl) x rfl W (F depth (fun d y=>atomP s.ps (rd_T30 t.f2 0).f0 d [u,x,y])) fun W2 hW2 hx hz hsz=> ?_
 have b2:∀{w},Below W2.drew.heap.size W2.drew w→Below W2.heap.size W2 w:=fun hB=>below_step (below_drew (Below.refl _ _)) hB
 have bw:∀{w},Below W2.drew.heap.size W2.drew w→Below W.heap.size W w:=fun hB=>below_step hW2 (b2 hB)
 have bs:∀{w},Below W2.drew.heap.size W2.drew w→W.heap.size+2≤w.heap.size:=fun hB=>by
  have h2:=(b2 hB).size
  omega
 refine region_kn 8 16 [.is (.pointer (some ⟨bp,0,none⟩)),.is (.pointer (some ⟨Bt,2,none⟩)),.is (.slice (some ad) t.f2.length c2),.is (.pointer (some (ad.add ((2:Int).toNat*3)))),.is (.agg #[.string (rd_T30 t.f2 2).f0,.slice B1 (rd_T30 t.f2 2).f1.length d1,.slice B2 (rd_T30 t.f2 2).f2.length d2]),.is (.int .i64 depth),.fn (some (fun d y=>atomP s.ps (rd_T30 t.f2 0).f0 d [u,x,y])),.mn (W.heap.size+2) (F depth (fun d y=>atomP s.ps (rd_T30 t.f2 0).f0 d [u,x,y]))] [8,9,10,11,12,13,14,15,999] _ W2 rfl (by kernel_rfl) (by kernel_rfl) (by kernel_rfl) ⟨
  fun q w J hB hq h hi=>op_ld73 hi rfl rfl rfl (hbb.below (bw hB)).now (h _ _ rfl (.refl _ _)),
  fun q w J hB hq h hi=>op_fa (c:=2) hi rfl rfl rfl (h _ _ rfl (.refl _ _)),
  fun q w J hB hq h hi=>op_ld28 hi rfl rfl (hq 1 rfl) (blk_cell (ht.below (bw hB)).now.blk 2) (h _ _ rfl (.refl _ _)),
  fun q w J hB hq h hi=>op_ix hi rfl rfl (eq_true (by decide)) (eq_true (by omega)) (hq 2 rfl) (h _ _ rfl (.refl _ _)),
  fun q w J hB hq h hi=>op_ldT hi rfl rfl (hq 3 rfl) (pw_cell_below (bw hB) y0) (pw_cell_below (bw hB) y1) (pw_cell_below (bw hB) y2) (h _ _ rfl (.refl _ _)),
  fun q w J hB hq h hi=>op_mv hi rfl rfl rfl (h _ _ rfl (.refl _ _)),
  fun q w J hB hq h hi=>op_mf (vs:= #[.pointer (some ⟨Bb,0,none⟩),.pointer (some ⟨Bt,0,none⟩),.pointer (some ⟨Bu,0,none⟩),.pointer (some ⟨W.heap.size,0,none⟩)]) hi rfl rfl (by kernel_rfl) (h _ _ ⟨_,rfl,PrdV.mono (clo137 (ok:=fun _=>True) (frT hb (bw hB)) (frT hbb (bw hB)) (frT ht (bw hB)) (by omega) (frT hu (bw hB)) (TmAt.frT (hx.below (b2 hB)))) (fun _ _ _=>trivial)⟩ (.refl _ _)),
  fun q w J hB hq h hi=>op_app hi rfl rfl (hq 0 rfl) (hq 4 rfl) (hq 5 rfl) rfl (hq 6 rfl) (hF.below (bw hB)).now (Kd.C_below hi1 (bw hB)) hl1 (Kd.C_below hi2 (bw hB)) hl2 rfl (fun e w' b=>⟨e,below_step (bw hB) b⟩) (bs hB) h,trivial⟩ ?_
 intro o q w hi hB hx2
 injection hi with hi2
 subst hi2
 exact op_st70 rfl rfl rfl rfl rfl rfl (blk_below hz (b2 hB)) (hx2 7 (by decide)) (Nat.lt_succ_self _) fun m w' e hm hb=>⟨rfl,rfl,(bw hB).trans (hb _ (Nat.le_succ _)),m,e,hm⟩
set_option maxHeartbeats 2000000 in
set_option maxRecDepth 100000 in
theorem clo135 {w:World} {ok:Nat→Prop} {bp mb Bb Bt:Nat} {s:Sg} {t:S30} {A1:Option Addr} {c1:Nat} {A2:Option Addr} {c2:Nat} (hb:Fr w ok fun W=>Bld W bp mb s) (hbb:Fr w ok fun W=>BoxAt W Bb 73 (.pointer (some ⟨bp,0,none⟩))) (ht:Fr w ok fun W=>TreeAt W Bt t A1 c1 A2 c2) (hk:1<t.f2.length) {F:Int→Prd→Option S70} (hF:Fr w ok (ApplyC bp (rd_T30 t.f2 1) F)) (hk2:2<t.f2.length) {F2:Int→Prd→Option S70} (hF2:Fr w ok (ApplyC bp (rd_T30 t.f2 2) F2)):
  PrdV w ok (.func (.func 135) #[] #[.pointer (some ⟨Bb,0,none⟩),.pointer (some ⟨Bt,0,none⟩)]) (fun depth x=>F depth (fun d y=>F2 d (fun d2 z=>atomP s.ps (rd_T30 t.f2 0).f0 d2 [x,y,z]))):=by
 refine ⟨135,_,rfl,enters_of Tryz.func135 (by kernel_rfl) rfl,fun W hW depth x=> ?_⟩
 replace hb:=hb.ext hW
 replace hbb:=hbb.ext hW
 replace ht:=ht.ext hW
 replace hF:=hF.ext hW
 replace hF2:=hF2.ext hW
 obtain ⟨ad,B1,d1,B2,d2,e,y0,y1,y2,hl1,hi1,hl2,hi2⟩:=at_T30 ht.now.k 1 (by omega) (by omega)
 subst e
 refine clo_gen Tryz.func135 (n:=15) (a:=5) (b:=6) (show Tryz.f135.body=some _ from rfl) rfl rfl rfl rfl rfl rfl rfl (by decide) (by decide) (fun j=>match j with | 0=> .int .i64 depth | 1=>tmV x | 2=> .pointer (some ⟨Bb,0,none⟩) | 3=> .pointer (some ⟨Bt,0,none⟩) | _=>undef) (by kernel_rfl) x rfl W (F depth (fun d y=>F2 d (fun d2 z=>atomP s.ps (rd_T30 t.f2 0).f0 d2 [x,y,z]))) fun W2 hW2 hx hz hsz=> ?_
 have b2:∀{w},Below W2.drew.heap.size W2.drew w→Below W2.heap.size W2 w:=fun hB=>below_step (below_drew (Below.refl _ _)) hB
 have bw:∀{w},Below W2.drew.heap.size W2.drew w→Below W.heap.size W w:=fun hB=>below_step hW2 (b2 hB)
 have bs:∀{w},Below W2.drew.heap.size W2.drew w→W.heap.size+2≤w.heap.size:=fun hB=>by
  have h2:=(b2 hB).size
  omega
 refine region_kn 8 15 [.is (.pointer (some ⟨bp,0,none⟩)),.is (.pointer (some ⟨Bt,2,none⟩)),.is (.slice (some ad) t.f2.length c2),.is (.pointer (some (ad.add ((1:Int).toNat*3)))),.is (.agg #[.string (rd_T30 t.f2 1).f0,.slice B1 (rd_T30 t.f2 1).f1.length d1,.slice B2 (rd_T30 t.f2 1).f2.length d2]),.is (.int .i64 depth),.fn (some (fun d y=>F2 d (fun d2 z=>atomP s.ps (rd_T30 t.f2 0).f0 d2 [x,y,z]))),.mn (W.heap.size+2) (F depth (fun d y=>F2 d (fun d2 z=>atomP s.ps (rd_T30 t.f2 0).f0 d2 [x,y,z])))] [7,8,9,10,11,12,13,14,999] _ W2 rfl (by kernel_rfl) (by kernel_rfl) (by kernel_rfl) ⟨
  fun q w J hB hq h hi=>op_ld73 hi rfl rfl rfl (hbb.below (bw hB)).now (h _ _ rfl (.refl _ _)),
  fun q w J hB hq h hi=>op_fa (c:=2) hi rfl rfl rfl (h _ _ rfl (.refl _ _)),
  fun q w J hB hq h hi=>op_ld28 hi rfl rfl (hq 1 rfl) (blk_cell (ht.below (bw hB)).now.blk 2) (h _ _ rfl (.refl _ _)),
  fun q w J hB hq h hi=>op_ix hi rfl rfl (eq_true (by decide)) (eq_true (by omega)) (hq 2 rfl) (h _ _ rfl (.refl _ _)),
  fun q w J hB hq h hi=>op_ldT hi rfl rfl (hq 3 rfl) (pw_cell_below (bw hB) y0) (pw_cell_below (bw hB) y1) (pw_cell_below (bw hB) y2) (h _ _ rfl (.refl _ _)),
  fun q w J hB hq h hi=>op_mv hi rfl rfl rfl (h _ _ rfl (.refl _ _)),
  fun q w J hB hq h hi=>op_mf (vs:= #[.pointer (some ⟨Bb,0,none⟩),.pointer (some ⟨Bt,0,none⟩),.pointer (some ⟨W.heap.size,0,none⟩)]) hi rfl rfl (by kernel_rfl) (h _ _ ⟨_,rfl,PrdV.mono (clo136 (ok:=fun _=>True) (frT hb (bw hB)) (frT hbb (bw hB)) (frT ht (bw hB)) hk2 (TmAt.frT (hx.below (b2 hB))) (frT hF2 (bw hB))) (fun _ _ _=>trivial)⟩ (.refl _ _)),
  fun q w J hB hq h hi=>op_app hi rfl rfl (hq 0 rfl) (hq 4 rfl) (hq 5 rfl) rfl (hq 6 rfl) (hF.below (bw hB)).now (Kd.C_below hi1 (bw hB)) hl1 (Kd.C_below hi2 (bw hB)) hl2 rfl (fun e w' b=>⟨e,below_step (bw hB) b⟩) (bs hB) h,trivial⟩ ?_
 intro o q w hi hB hx2
 injection hi with hi2
 subst hi2
 exact op_st70 rfl rfl rfl rfl rfl rfl (blk_below hz (b2 hB)) (hx2 7 (by decide)) (Nat.lt_succ_self _) fun m w' e hm hb=>⟨rfl,rfl,(bw hB).trans (hb _ (Nat.le_succ _)),m,e,hm⟩
end
section
attribute [local go_sem] Oper.semAt_some
structure Chg (w:World) (pr:Nat→Prop) (w' :World) (pr' :Nat→Prop):Prop where
 size:w.heap.size≤w'.heap.size
 block:∀k,k<w.heap.size→¬pr k→w'.heap[k]? =w.heap[k]?
 pr:∀k,k<w.heap.size→(pr' k↔pr k)
structure Kb where
 In:Value→World→(Nat→Prop)→Prop
 st:∀v w pr w' pr',In v w pr→Chg w pr w' pr' →In v w' pr'
def Kb.is (v:Value):Kb:=⟨fun x _ _=>x=v,fun _ _ _ _ _ h _=>h⟩
def Kb.top:Kb:=⟨fun _ _ _=>True,fun _ _ _ _ _ _ _=>trivial⟩
def Kb.fn (ok:Nat→Prop) (o:Option Prd):Kb:=⟨fun v w pr=>∃f,o=some f∧PrdV w (fun k=>ok k∧¬pr k) v f,fun v w pr w' pr' h hc=>h.imp fun f hf=>⟨hf.1,((hf.2.mono (ok' :=fun k=>(ok k∧¬pr k)∧k<w.heap.size) (fun k hk ho=>⟨ho,hk⟩)).ext ⟨hc.size,fun k hk hlt=>hc.block k hlt hk.1.2⟩).mono (fun k _ ho=>⟨ho.1.1,fun hp=>ho.1.2 ((hc.pr k ho.2).1 hp)⟩)⟩⟩
structure Bx where
 q:Nat
 s:Nat
 c:Nat
section
variable {ops:Array Oper} {Q:Exit→Act→World→Prop} (ty:TypeId) (z:Array Value) (cl:Value→Array Value)
def privB (bx:List Bx) (l:Nat→Bool) (x:Nat→Value) (k:Nat):Prop:=∃b∈bx,l b.q=true∧x b.q= .pointer (some ⟨k,0,none⟩)
structure BxInv (bx:List Bx) (N:Nat) (l:Nat→Bool) (x:Nat→Value) (w:World):Prop where
 at_:∀b∈bx,l b.q=true→∃g,x b.q= .pointer (some ⟨g,0,none⟩)∧N≤g∧w.heap[g]? =some (.cells (if l b.s=true then cl (x b.c)else z) ty (0,0))
 ne:∀b∈bx,∀b' ∈bx,l b.q=true→l b'.q=true→b.q≠b'.q→x b.q≠x b'.q
theorem BxInv.priv {ty:TypeId} {z:Array Value} {cl:Value→Array Value} {bx:List Bx} {N:Nat} {l:Nat→Bool} {x:Nat→Value} {w:World} (h:BxInv ty z cl bx N l x w):∀k,privB bx l x k→N≤k∧k<w.heap.size:=by
 rintro k ⟨b,hb,hl,hx⟩
 obtain ⟨g,hg,h1,h2⟩:=h.at_ b hb hl
 rw[hx]at hg
 injection hg with hg
 injection hg with hg
 injection hg with hg
 subst hg
 exact ⟨h1,blk_lt h2⟩
def bxB (ops:Array Oper) (bx:List Bx):Bool:=(bx.all fun b=>Dep .any ops b.q b.s && Dep .any ops b.c b.s && decide (b.q<ops.size) && decide (b.s<ops.size)) && (bx.all fun b=>bx.all fun b' =>(b.q == b'.q) == (b.s == b'.s) && (!(b.s == b'.s) || b.c == b'.c) && !(b.q == b'.s) && !(b.c == b'.q) && !(b.c == b'.s))
def StepB (ops:Array Oper) (Q:Exit→Act→World→Prop) (fr:(Nat→Value)→Act) (W0:World) (ks:List Kb) (i:Nat) (o:Oper):Prop:=∀x w J (pr:Nat→Prop),Below W0.heap.size W0 w→(∀k,pr k→W0.heap.size≤k∧k<w.heap.size)→(∀j,waits o j=true→(ks.getD j .top).In (x j) w pr)→(∀v w',(ks.getD i .top).In v w' pr→Below w.heap.size w w' →J ((fr x).put o.dst v) w')→ops[i]? =some o→wpOp Tryz.prog ops Q i J (fr x) w
def MakeB (ops:Array Oper) (Q:Exit→Act→World→Prop) (fr:(Nat→Value)→Act) (b:Bx) (o:Oper):Prop:=∀x w J,J ((fr x).put o.dst (.pointer (some ⟨w.heap.size,0,none⟩))) (w.alloc (.cells z ty (0,0)))→ops[b.q]? =some o→wpOp Tryz.prog ops Q b.q J (fr x) w
def StoreB (ops:Array Oper) (Q:Exit→Act→World→Prop) (fr:(Nat→Value)→Act) (ks:List Kb) (b:Bx) (o:Oper):Prop:=∀x w J g (pr:Nat→Prop),x b.q= .pointer (some ⟨g,0,none⟩)→(ks.getD b.c .top).In (x b.c) w pr→w.heap[g]? =some (.cells z ty (0,0)) →
 (∀v w',w'.heap[g]? =some (.cells (cl (x b.c)) ty (0,0))→(∀k,k≠g→w'.heap[k]? =w.heap[k]?)→(∀C,C≤g→Below C w w')→J ((fr x).put o.dst v) w')→ops[b.s]? =some o→wpOp Tryz.prog ops Q b.s J (fr x) w
def StepsB (ops:Array Oper) (Q:Exit→Act→World→Prop) (fr:(Nat→Value)→Act) (W0:World) (ks:List Kb) (bx:List Bx):List Oper→Nat→Prop
 |o::r,i=>(match bx.find? fun b=>b.q == i with
  |some b=>MakeB ty z ops Q fr b o
  |none=>match bx.find? fun b=>b.s == i with
   |some b=>StoreB ty z cl ops Q fr ks b o
   |none=>StepB ops Q fr W0 ks i o)∧StepsB ops Q fr W0 ks bx r (i+1)
 | [],_=>True
theorem stepsB_at {ty:TypeId} {z:Array Value} {cl:Value→Array Value} {fr:(Nat→Value)→Act} {W0:World} {ks:List Kb} {bx:List Bx}:∀(l:List Oper) (i:Nat),StepsB ty z cl ops Q fr W0 ks bx l i→∀j o,l[j]? =some o→(match bx.find? fun b=>b.q == i+j with
  |some b=>MakeB ty z ops Q fr b o
  |none=>match bx.find? fun b=>b.s == i+j with
   |some b=>StoreB ty z cl ops Q fr ks b o
   |none=>StepB ops Q fr W0 ks (i+j) o)
 |o::r,i,h,0,o',ho=>by
  simp at ho
  subst ho
  exact h.1
 |o::r,i,h,j+1,o',ho=>by
  have:=stepsB_at r (i+1) h.2 j o' (by simpa using ho)
  rwa [Nat.add_assoc,Nat.add_comm 1 j]at this
 | [],_,_,_,_,ho=>by simp at ho
theorem region_box {id:Nat} (n:Nat) (ks:List Kb) (bx:List Bx) (KS:List Nat) (f:Nat→Value) (W:World) (hfit:fitB ops n KS=true)
  (hlow:(List.range ops.size).all (fun i=>((ops[i]?).map fun o=>o.after.all fun e=> !Region.binds .any e || decide (e.on<i)).getD true)=true) (hbx:bxB ops bx=true) (hks:∀j,(¬∀b∈bx,b.q≠j∧b.s≠j)→∀v w pr,(ks.getD j .top).In v w pr)
  (hst:StepsB ty z cl ops Q (fun x=>frN n (sl x f KS)) W.drew ks bx ops.toList 0)
  (fin:∀x w,Below W.drew.heap.size W.drew w→(∀i,i<ops.size→(∀b∈bx,b.q≠i∧b.s≠i)→(ks.getD i .top).In (x i) w (privB bx (fun _=>true) x))→BxInv ty z cl bx W.drew.heap.size (fun _=>true) x w→Q .normal (frN n (sl x f KS)) w) :
  Code.wp Tryz.prog (.region id ops true) Q (frN n f) W:=by
 have e0:frN n f=frN n (sl (fun i=>f (KS.getD i 0)) f KS):=by
  unfold frN
  congr 2
  apply List.map_congr_left
  intro j _
  unfold sl
  cases hi:KS.idxOf? j with
  |none=>rfl
  |some i =>
   show f j=f (KS.getD i 0)
   rw[List.idxOf?,List.findIdx?_eq_some_iff_getElem]at hi
   obtain ⟨hl,he,_⟩:=hi
   rw[List.getD_eq_getElem?_getD,List.getElem?_eq_getElem hl,Option.getD_some,eq_of_beq he]
 rw[e0]
 have hrep:∀i,(Array.replicate ops.size false).getD i false=false:=fun i=>by
  rw[Array.getD_eq_getD_getElem?]
  by_cases h:i<ops.size<;>simp[h]
 have hb1:∀b∈bx,Dep .any ops b.q b.s=true∧Dep .any ops b.c b.s=true∧b.q<ops.size∧b.s<ops.size:=fun b hb=>by
  unfold bxB at hbx
  rw[Bool.and_eq_true]at hbx
  have h:=List.all_eq_true.1 hbx.1 b hb
  simp only[Bool.and_eq_true,decide_eq_true_eq]at h
  exact ⟨h.1.1.1,h.1.1.2,h.1.2,h.2⟩
 have hb2:∀b∈bx,∀b' ∈bx,((b.q == b'.q)=(b.s == b'.s))∧b.q≠b'.s∧b.c≠b'.q∧b.c≠b'.s∧(b.s=b'.s→b.c=b'.c):=fun b hb b' hb' =>by
  unfold bxB at hbx
  rw[Bool.and_eq_true]at hbx
  have h:=List.all_eq_true.1 (List.all_eq_true.1 hbx.2 b hb) b' hb'
  simp only[Bool.and_eq_true,Bool.or_eq_true,Bool.not_eq_true',beq_iff_eq,beq_eq_false_iff_ne]at h
  exact ⟨h.1.1.1.1,h.1.1.2,h.1.2,h.2,fun e=>h.1.1.1.2.elim (fun hn=>absurd e hn) (fun h=>h)⟩
 refine wp_region_any (by kernel_rfl) (any_inv (I:=fun l a w=>l.size=ops.size∧Closed .any ops l∧Below W.drew.heap.size W.drew w∧∃x,a=frN n (sl x f KS)∧(∀i,l.getD i false=true→(∀b∈bx,b.q≠i∧b.s≠i)→(ks.getD i .top).In (x i) w (privB bx (fun j=>l.getD j false) x))∧BxInv ty z cl bx W.drew.heap.size (fun j=>l.getD j false) x w) ?_ ?_ _ _ _ _ (cntF_repl _) ⟨by simp,fun j hj=>(by rw[hrep]at hj;cases hj),Below.refl _ _,_,rfl,fun i hi=>(by rw[hrep]at hi;cases hi),⟨fun b _ h=>(by rw[hrep]at h;cases h),fun b _ b' _ h=>(by rw[hrep]at h;cases h)⟩⟩)
 ·rintro l a w i ⟨hl,hcl,hB,x,rfl,hx,hI⟩ hi
  have hif:=ready_false hi
  have hil:i<l.size:=(Array.getElem?_eq_some_iff.1 hif).1
  have hig:l.getD i false=false:=by rw[Array.getD_eq_getD_getElem?,hif];rfl
  have ho:ops[i]? =some ops[i]:=Array.getElem?_eq_getElem (by omega)
  have hcl2:=hcl.set ho hi hil
  have hne:∀v j,j≠i→upd x i v j=x j:=fun v j hj=>by unfold upd;rw[if_neg hj]
  have hself:∀v,upd x i v i=v:=fun v=>by unfold upd;rw[if_pos rfl]
  have hstep:=stepsB_at ops.toList 0 hst i ops[i] (by simp)
  rw[Nat.zero_add]at hstep
  have hpriv:=hI.priv
  have hput:=fun v=>fit_put hfit f i ops[i] x v ho
  have hcne:∀b∈bx,l.getD b.s false=true→b.c≠i:=fun b hb hs e=>by
   have:=hcl b.s hs b.c (hb1 b hb).2.1
   rw[e,hig]at this
   cases this
  cases hfq:bx.find? (fun b=>b.q == i)with
  |some b =>
   -- a variable is made
   rw[hfq]at hstep
   have hb:=List.mem_of_find?_eq_some hfq
   have hbi:b.q=i:=eq_of_beq (List.find?_some (p:=fun b:Bx=>b.q == i) hfq)
   subst hbi
   refine hstep x w _ ?_ ho
   rw[hput]
   have hnew:=hne (.pointer (some ⟨w.heap.size,0,none⟩))
   have hpr:∀k,k<w.heap.size→(privB bx (fun j=>(l.setIfInBounds b.q true).getD j false) (upd x b.q (.pointer (some ⟨w.heap.size,0,none⟩))) k↔privB bx (fun j=>l.getD j false) x k):=by
    intro k hk
    constructor
    ·rintro ⟨b',hb',h1,h2⟩
     by_cases e:b'.q=b.q
     ·rw[e,hself]at h2
      injection h2 with h2
      injection h2 with h2
      injection h2 with h2
      omega
     ·rw[hnew _ e]at h2
      exact ⟨b',hb',(getD_set e).symm.trans h1,h2⟩
    ·rintro ⟨b',hb',h1,h2⟩
     have e:b'.q≠b.q:=fun e=>by have h1:l.getD b'.q false=true:=h1;rw[e,hig]at h1;cases h1
     exact ⟨b',hb',(getD_set e).trans h1,by rw[hnew _ e];exact h2⟩
   have hbe:=below_alloc (Below.refl w.heap.size w) (.cells z ty (0,0))
   refine ⟨by simp[hl],hcl2,below_step hB hbe,_,rfl,fun j hj hjb=> ?_,⟨fun b' hb' hq=> ?_,fun b' hb' b2 hb2' hq hq2 hne2=> ?_⟩⟩
   ·have hjq:j≠b.q:=fun e=>(hjb b hb).1 e.symm
    rw[getD_set hjq]at hj
    rw[hnew j hjq]
    exact (ks.getD j .top).st _ _ _ _ _ (hx j hj hjb) ⟨hbe.size,fun k hk _=>hbe.block k hk,hpr⟩
   ·by_cases e:b'.q=b.q
    ·have es:b'.s=b.s:=by
      have:=(hb2 b' hb' b hb).1
      rw[beq_iff_eq.mpr e]at this
      exact eq_of_beq this.symm
     have hs0:l.getD b.s false=false:=by
      cases hs:l.getD b.s false with
      |false=>rfl
      |true =>
       have:=hcl b.s hs b.q (hb1 b hb).1
       rw[hig]at this
       cases this
     refine ⟨w.heap.size,by rw[e,hself],hB.size,?_⟩
     rw[if_neg (by rw[es];show ¬(l.setIfInBounds b.q true).getD b.s false=true;rw[getD_set (fun h=>(hb2 b hb b hb).2.1 h.symm),hs0];simp)]
     exact heap_alloc_new _ _
    ·have hq:=(getD_set e).symm.trans hq
     obtain ⟨g,h1,h2,h3⟩:=hI.at_ b' hb' hq
     refine ⟨g,by rw[hnew _ e];exact h1,h2,?_⟩
     have hsq:b'.s≠b.q:=fun h=>(hb2 b hb b' hb').2.1 h.symm
     rw[show (l.setIfInBounds b.q true).getD b'.s false=l.getD b'.s false from getD_set hsq]
     have hcq:b'.c≠b.q:=(hb2 b' hb' b hb).2.2.1
     rw[hnew _ hcq]
     exact blk_below h3 hbe
   ·by_cases e:b'.q=b.q
    ·have e2:b2.q≠b.q:=fun h=>hne2 (e.trans h.symm)
     rw[e,hself,hnew _ e2]
     have hq2:=(getD_set e2).symm.trans hq2
     obtain ⟨g,h1,h2,h3⟩:=hI.at_ b2 hb2' hq2
     rw[h1]
     intro h
     injection h with h
     injection h with h
     injection h with h
     have:=blk_lt h3
     omega
    ·have hq:=(getD_set e).symm.trans hq
     by_cases e2:b2.q=b.q
     ·rw[e2,hself,hnew _ e]
      obtain ⟨g,h1,h2,h3⟩:=hI.at_ b' hb' hq
      rw[h1]
      intro h
      injection h with h
      injection h with h
      injection h with h
      have:=blk_lt h3
      omega
     ·have hq2:=(getD_set e2).symm.trans hq2
      rw[hnew _ e,hnew _ e2]
      exact hI.ne b' hb' b2 hb2' hq hq2 hne2
  |none =>
   rw[hfq]at hstep
   have hiq:∀b∈bx,b.q≠i:=fun b hb e=>by
    have:=List.find?_eq_none.1 hfq b hb
    exact this (beq_iff_eq.mpr e)
   have hprE:∀v k,privB bx (fun j=>(l.setIfInBounds i true).getD j false) (upd x i v) k↔privB bx (fun j=>l.getD j false) x k:=by
    intro v k
    constructor
    ·rintro ⟨b',hb',h1,h2⟩
     exact ⟨b',hb',(getD_set (hiq b' hb')).symm.trans h1,by rw[hne v _ (hiq b' hb')]at h2;exact h2⟩
    ·rintro ⟨b',hb',h1,h2⟩
     exact ⟨b',hb',(getD_set (hiq b' hb')).trans h1,by rw[hne v _ (hiq b' hb')];exact h2⟩
   cases hfs:bx.find? (fun b=>b.s == i)with
   |some b =>
    -- a value is stored
    rw[hfs]at hstep
    have hb:=List.mem_of_find?_eq_some hfs
    have hbi:b.s=i:=eq_of_beq (List.find?_some (p:=fun b:Bx=>b.s == i) hfs)
    subst hbi
    have hqd:=ready_deps hi ho
    have hdq:l.getD b.q false=true:=by
     obtain ⟨e,he,hbn,heq⟩:=dep_mem ho (hb1 b hb).1
     exact heq▸hqd e he hbn
    have hdc:l.getD b.c false=true:=by
     obtain ⟨e,he,hbn,heq⟩:=dep_mem ho (hb1 b hb).2.1
     exact heq▸hqd e he hbn
    obtain ⟨g,hg,hg0,hz⟩:=hI.at_ b hb hdq
    rw[if_neg (by show ¬l.getD b.s false=true;rw[hig];simp)]at hz
    have hcx:=hx b.c hdc (fun b' hb' =>⟨fun e=>(hb2 b hb b' hb').2.2.1 e.symm,fun e=>(hb2 b hb b' hb').2.2.2.1 e.symm⟩)
    refine hstep x w _ g _ hg hcx hz (fun v w' hbk hfar hbel=> ?_) ho
    rw[hput]
    have hlt:=blk_lt hz
    have hgp:privB bx (fun j=>l.getD j false) x g:=⟨b,hb,hdq,hg⟩
    have hbe:=hbel W.drew.heap.size hg0
    refine ⟨by simp[hl],hcl2,hB.trans hbe,_,rfl,fun j hj hjb=> ?_,⟨fun b' hb' hq=> ?_,fun b' hb' b2 hb2' hq hq2 hne2=> ?_⟩⟩
    ·have hjs:j≠b.s:=fun e=>(hjb b hb).2 e.symm
     rw[getD_set hjs]at hj
     rw[hne v j hjs]
     exact (ks.getD j .top).st _ _ _ _ _ (hx j hj hjb) ⟨hbe.size,fun k _ hk=>hfar k (fun e=>hk (e▸hgp)),fun k _=>hprE v k⟩
    ·have hq:=(getD_set (hiq b' hb')).symm.trans hq
     obtain ⟨g',h1,h2,h3⟩:=hI.at_ b' hb' hq
     refine ⟨g',by rw[hne v _ (hiq b' hb')];exact h1,h2,?_⟩
     have hcs:b'.c≠b.s:=(hb2 b' hb' b hb).2.2.2.1
     rw[hne v _ hcs]
     by_cases e:b'.s=b.s
     ·have eq_:b'.q=b.q:=by
       have:=(hb2 b' hb' b hb).1
       rw[beq_iff_eq.mpr e]at this
       exact eq_of_beq this
      have ec:=(hb2 b' hb' b hb).2.2.2.2 e
      rw[eq_,hg]at h1
      injection h1 with h1
      injection h1 with h1
      injection h1 with h1
      subst h1
      rw[if_pos (by rw[e];exact getD_set_same hil),ec]
      exact hbk
     ·rw[show (l.setIfInBounds b.s true).getD b'.s false=l.getD b'.s false from getD_set e]
      have hgg:g' ≠g:=fun hg' =>by
       have eq_:b'.q≠b.q:=fun e' =>e (by
        have:=(hb2 b' hb' b hb).1
        rw[beq_iff_eq.mpr e']at this
        exact eq_of_beq this.symm)
       exact hI.ne b' hb' b hb hq hdq eq_ (by rw[h1,hg,hg'])
      rw[hfar g' hgg]
      exact h3
    ·have hq:=(getD_set (hiq b' hb')).symm.trans hq
     have hq2:=(getD_set (hiq b2 hb2')).symm.trans hq2
     rw[hne v _ (hiq b' hb'),hne v _ (hiq b2 hb2')]
     exact hI.ne b' hb' b2 hb2' hq hq2 hne2
   |none =>
    rw[hfs]at hstep
    have his:∀b∈bx,b.s≠i:=fun b hb e=>by
     have:=List.find?_eq_none.1 hfs b hb
     exact this (beq_iff_eq.mpr e)
    refine hstep x w _ (privB bx (fun j=>l.getD j false) x) hB hpriv ?_ (fun v w' hv hw=> ?_) ho
    ·refine deps_waits rfl (fun e he hbn=> ?_)
     by_cases hj:∀b∈bx,b.q≠e.on∧b.s≠e.on
     ·exact hx _ (ready_deps hi ho e he hbn) hj
     ·exact hks _ hj _ _ _
    ·rw[hput]
     refine ⟨by simp[hl],hcl2,below_step hB hw,_,rfl,fun j hj hjb=> ?_,⟨fun b' hb' hq=> ?_,fun b' hb' b2 hb2' hq hq2 hne2=> ?_⟩⟩
     ·by_cases hji:j=i
      ·subst hji
       rw[hself]
       exact (ks.getD j .top).st _ _ _ _ _ hv ⟨Nat.le_refl _,fun _ _ _=>rfl,fun k _=>hprE v k⟩
      ·rw[getD_set hji]at hj
       rw[hne v j hji]
       exact (ks.getD j .top).st _ _ _ _ _ (hx j hj hjb) ⟨hw.size,fun k hk _=>hw.block k hk,fun k _=>hprE v k⟩
     ·have hq:=(getD_set (hiq b' hb')).symm.trans hq
      obtain ⟨g',h1,h2,h3⟩:=hI.at_ b' hb' hq
      refine ⟨g',by rw[hne v _ (hiq b' hb')];exact h1,h2,?_⟩
      rw[show (l.setIfInBounds i true).getD b'.s false=l.getD b'.s false from getD_set (his b' hb')]
      by_cases hs:l.getD b'.s false=true
      ·rw[hne v _ (hcne b' hb' hs)]
       exact blk_below h3 hw
      ·have h3:=blk_below h3 hw
       rw[if_neg hs]at h3
       rw[if_neg hs]
       exact h3
     ·have hq:=(getD_set (hiq b' hb')).symm.trans hq
      have hq2:=(getD_set (hiq b2 hb2')).symm.trans hq2
      rw[hne v _ (hiq b' hb'),hne v _ (hiq b2 hb2')]
      exact hI.ne b' hb' b2 hb2' hq hq2 hne2
 ·rintro l a w ⟨hl,hcl,hB,x,rfl,hx,hI⟩ hr
  have hdone:∀i,i<ops.size→l.getD i false=true:=fun i hi=>all_of_none hl hlow hr (i+1) i (by omega) hi
  have hprE:∀k,privB bx (fun _=>true) x k↔privB bx (fun j=>l.getD j false) x k:=fun k=>⟨fun ⟨b,hb,_,h⟩=>⟨b,hb,hdone _ (hb1 b hb).2.2.1,h⟩,fun ⟨b,hb,_,h⟩=>⟨b,hb,rfl,h⟩⟩
  refine fin x w hB (fun i hi hib=>(ks.getD i .top).st _ _ _ _ _ (hx i (hdone i hi) hib) ⟨Nat.le_refl _,fun _ _ _=>rfl,fun k _=>hprE k⟩) ⟨fun b hb _=> ?_,fun b hb b' hb' _ _ h=>hI.ne b hb b' hb' (hdone _ (hb1 b hb).2.2.1) (hdone _ (hb1 b' hb').2.2.1) h⟩
  obtain ⟨g,h1,h2,h3⟩:=hI.at_ b hb (hdone _ (hb1 b hb).2.2.1)
  rw[if_pos (hdone _ (hb1 b hb).2.2.2)]at h3
  exact ⟨g,h1,h2,by rw[if_pos rfl];exact h3⟩
end
end
end Go.Proofs.YtcfjomnihhdpaaaGreatDoor.A
